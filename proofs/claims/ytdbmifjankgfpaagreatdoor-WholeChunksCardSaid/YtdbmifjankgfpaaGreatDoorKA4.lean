/- Frames with a magic number, a name and a checksum, as plain functions. -/
import Derived.Test.YtdbmifjankgfpaaGreatDoorKA3
set_option linter.all false
namespace Go.Proofs.YtdbmifjankgfpaaGreatDoor
def zm:=@beq_eq_false_iff_ne
def zE:=@decide_eq_true
def zN:=@List.getElem_mem
def ye:=@of_decide_eq_true
def yQ:=@List.getElem_cons_zero
def y8:=@Nat.add_zero
def Zf:=@Bool.and_true
def Zu:=@ByteArray.append_assoc
def ZJ:=@List.take_left'
def ZL:=@List.drop_left'
def ZO:=@List.getD_cons_zero
def Yi:=@List.length_eq_one_iff
def kx (n:Nat):ByteArray:=⟨(iq n 4).toArray⟩
theorem df (n:Nat):(kx n).size=4:=by rw[kx,bB,bh]
theorem Pb (n:Nat):(kx n).data.toList=iq n 4:=by simp[kx]
theorem Pc (s:ByteArray)(h:s.size=4):kx (cZ s.data.toList)=s:=by
 have e:=O9 s.data.toList;rw[aa,h]at e;rw[kx,e,iJ]
theorem uh (n:Nat)(h:n<4294967296):cZ (kx n).data.toList=n:=by rw[Pb];exact O8 4 n (by simpa using h)
theorem Pd (s:ByteArray)(n:Nat)(b:s.size=4)(h:n<4294967296):s=kx n↔cZ s.data.toList=n:=by
 constructor
 ·rintro rfl;exact uh n h
 rintro rfl;exact(Pc s b).symm
theorem ui (s:ByteArray)(b:s.size=4):cZ s.data.toList<4294967296:=by
 have:=jL s.data.toList;rw[aa,b]at this;simpa using this
def nw (m:Nat)(nm body:ByteArray):ByteArray:=kx m++eY nm++kx body.size++eQ body++body
theorem lW (m:Nat)(nm body:ByteArray)(h:nm.size<=12):(nw m nm body).size=24+body.size:=by
 simp only[nw,bD,df,ik nm h,lQ]
def aV (m:Nat)(most:Int)(s:ByteArray):Int×ByteArray×ByteArray×Nat:=
 if s.size<4 then(2,ByteArray.empty,ByteArray.empty,0)
 else if s.extract 0 4≠kx m then(9,ByteArray.empty,ByteArray.empty,0)
 else if s.size<16 then(2,ByteArray.empty,ByteArray.empty,0)
 else if(cI (s.extract 4 16)).1≠0 then(3,ByteArray.empty,ByteArray.empty,0)
 else if s.size<20 then(2,ByteArray.empty,ByteArray.empty,0)
 else if most<cZ (s.extract 16 20).data.toList then(5,ByteArray.empty,ByteArray.empty,0)
 else if s.size<24+cZ (s.extract 16 20).data.toList then(2,ByteArray.empty,ByteArray.empty,0)
 else if eQ (s.extract 24 (24+cZ (s.extract 16 20).data.toList))≠s.extract 20 24 then(10,ByteArray.empty,ByteArray.empty,0)
 else(0,(cI (s.extract 4 16)).2,s.extract 24 (24+cZ (s.extract 16 20).data.toList),24+cZ (s.extract 16 20).data.toList)
theorem fw (m:Nat)(most:Int)(s:ByteArray):aV m most s=(
 if s.size<4 then(2,ByteArray.empty,ByteArray.empty,0)
 else if s.extract 0 4≠kx m then(9,ByteArray.empty,ByteArray.empty,0)
 else if s.size<16 then(2,ByteArray.empty,ByteArray.empty,0)
 else if(cI (s.extract 4 16)).1≠0 then(3,ByteArray.empty,ByteArray.empty,0)
 else if s.size<20 then(2,ByteArray.empty,ByteArray.empty,0)
 else if most<cZ (s.extract 16 20).data.toList then(5,ByteArray.empty,ByteArray.empty,0)
 else if s.size<24+cZ (s.extract 16 20).data.toList then(2,ByteArray.empty,ByteArray.empty,0)
 else if eQ (s.extract 24 (24+cZ (s.extract 16 20).data.toList))≠s.extract 20 24 then(10,ByteArray.empty,ByteArray.empty,0)
 else(0,(cI (s.extract 4 16)).2,s.extract 24 (24+cZ (s.extract 16 20).data.toList),24+cZ (s.extract 16 20).data.toList)):=rfl
theorem iG (s a b c:ByteArray)(h:s=a++b++c)(i j:Nat)(hi:a.size=i)(d:i+b.size=j):s.extract i j=b:=by
 subst h;subst hi;subst d;apply aB;rw[an,aP,aP,zX (by simp),zy (by simp),yI (by simp),<-aa,Ya,yu]
theorem B5 (a b c d e r:ByteArray)(i:a.size=4)(j:b.size=12)(k:c.size=4)(hd:d.size=4)(s:ByteArray)(h:s=a++b++c++d++e++r):
 s.extract 0 4=a/\s.extract 4 16=b/\s.extract 16 20=c/\s.extract 20 24=d/\s.extract 24 (24+e.size)=e/\s.size=24+e.size+r.size:=by
 refine⟨iG s ByteArray.empty a (b++c++d++e++r) ?_ _ _ rfl (by omega),iG s a b (c++d++e++r) ?_ _ _ i (by omega),iG s (a++b) c (d++e++r) ?_ _ _ (by rw[bD];omega) (by omega),
  iG s (a++b++c) d (e++r) ?_ _ _ (by rw[bD,bD];omega) (by omega),iG s (a++b++c++d) e r ?_ _ _ (by rw[bD,bD,bD];omega) rfl,by rw[h];simp only[bD];omega⟩
 all_goals(rw[h];try simp[Zu])
theorem Ih (m:Nat)(most:Int)(nm body more:ByteArray)(b:b8 nm=true)(n:(body.size:Int)<=most)(i:body.size<4294967296):
 aV m most (nw m nm body++more)=(0,nm,body,24+body.size):=by
 have hz:=dC b;obtain⟨j,h,l,k,d,e⟩:=B5 (kx m) (eY nm) (kx body.size) (eQ body) body more (df _) (ik nm hz.2) (df _) (lQ _) (nw m nm body++more) rfl;have c:=uh body.size i;unfold aV;rw[j,h,l,c,k,d,e,BQ nm b];rw[zh (by omega),zh (by simp),zh (by omega),zh (by simp),zh (by omega),zh (by omega),zh (by omega),zh (by simp)]
theorem vu (m:Nat)(most:Int)(s nm body:ByteArray)(n:Nat)(h:aV m most s=(0,nm,body,n)):b8 nm=true/\(body.size:Int)<=most/\n=24+body.size/\n<=s.size/\body.size<4294967296/\nw m nm body=s.extract 0 n:=by
 unfold aV at h;by_cases p:s.size<4
 ·rw[zi p]at h;injection h with h;simp at h
 rw[zh p]at h;by_cases e:s.extract 0 4≠kx m
 ·rw[zi e]at h;injection h with h;simp at h
 rw[zh e]at h;by_cases k:s.size<16
 ·rw[zi k]at h;injection h with h;simp at h
 rw[zh k]at h;by_cases d:(cI (s.extract 4 16)).1≠0
 ·rw[zi d]at h;injection h with h;simp at h
 rw[zh d]at h;by_cases o:s.size<20
 ·rw[zi o]at h;injection h with h;simp at h
 rw[zh o]at h;have q:(s.extract 16 20).size=4:=aj _ _ _ (by omega);have B:=ui (s.extract 16 20) q;have w:=Pc (s.extract 16 20) q;generalize cZ (s.extract 16 20).data.toList=N at*;by_cases l:most<N
 ·rw[zi l]at h;injection h with h;simp at h
 rw[zh l]at h;by_cases j:s.size<24+N
 ·rw[zi j]at h;injection h with h;simp at h
 rw[zh j]at h;by_cases i:eQ (s.extract 24 (24+N))≠s.extract 20 24
 ·rw[zi i]at h;injection h with h;simp at h
 rw[zh i]at h;injection h with _ h;injection h with hnm h;injection h with UU hn;have z:cI (s.extract 4 16)=(0,nm):=by
  rw[<-hnm];have x:(cI (s.extract 4 16)).1=0:=zC.1 d;exact ZH x rfl
 obtain⟨y,A⟩:=Mj _ _ z;have u:body.size=N:=by rw[<-UU,aj _ _ _ (by omega)];omega
 refine⟨A,by omega,by omega,by omega,by omega, ?_⟩;unfold nw;rw[y,u,w,<-UU,zC.1 i,<-zC.1 e,<-hn];apply aB;simp only[aP,an];generalize s.data.toList=L;have c:∀(a b:Nat),a<=b->L.take a++(L.take b).drop a=L.take b:=by
  intro a b r;have:=zJ a (L.take b);rwa [xe,yw r]at this
 rw[zK,c 4 16 (by omega),c 16 20 (by omega),c 20 24 (by omega),c 24 (24+N) (by omega)];rfl
theorem ir (s:ByteArray)(c i j:Nat)(h:j<=c):(s.extract 0 c).extract i j=s.extract i j:=by
 apply aB;rw[an,an,an,zK,xe,yw h]
theorem Ii (m:Nat)(most:Int)(s:ByteArray)(c:Nat)(l:c<=s.size):(aV m most (s.extract 0 c)).1=2\/aV m most (s.extract 0 c)=aV m most s:=by
 have hz:(s.extract 0 c).size=c:=by rw[aj _ _ _ l];omega
 unfold aV;rw[hz];by_cases j:c<4
 ·rw[zi j];exact .inl rfl
 rw[zh j,zh (by omega:¬s.size<4),ir s c 0 4 (by omega)];by_cases d:s.extract 0 4≠kx m
 ·rw[zi d,zi d];exact .inr rfl
 rw[zh d,zh d];by_cases k:c<16
 ·rw[zi k];exact .inl rfl
 rw[zh k,zh (by omega:¬s.size<16),ir s c 4 16 (by omega)];by_cases e:(cI (s.extract 4 16)).1≠0
 ·rw[zi e,zi e];exact .inr rfl
 rw[zh e,zh e];by_cases h:c<20
 ·rw[zi h];exact .inl rfl
 rw[zh h,zh (by omega:¬s.size<20),ir s c 16 20 (by omega)];generalize cZ (s.extract 16 20).data.toList=N;by_cases b:most<N
 ·rw[zi b,zi b];exact .inr rfl
 rw[zh b,zh b];by_cases i:c<24+N
 ·rw[zi i];exact .inl rfl
 rw[zh i,zh (by omega:¬s.size<24+N),ir s c 24 _ (by omega),ir s c 20 24 (by omega)];exact .inr rfl
def bd (c:aN)(s:ByteArray):Int×Fr×Nat×Nat:=
 if c.fm=1 then((aV c.mg c.fr s).1,⟨0,(aV c.mg c.fr s).2.1,(aV c.mg c.fr s).2.2.1⟩,(aV c.mg c.fr s).2.2.2,0)
 else if c.fm=2 then((ai c.fr s).1,⟨(ai c.fr s).2.1,ByteArray.empty,(ai c.fr s).2.2.1⟩,(ai c.fr s).2.2.2,0)
 else((aR c.fr c.un s).1,⟨(aR c.fr c.un s).2.1,ByteArray.empty,(aR c.fr c.un s).2.2.1⟩,(aR c.fr c.un s).2.2.2.1,(aR c.fr c.un s).2.2.2.2)
def aK (c:aN)(s:ByteArray):Int×Fr×Nat×Nat:=if c.right=true then bd c s else(1,rG,0,0)
def vw (fr:Int):Int:=if fr<128 then 1 else if fr<16384 then 2 else 3
def sU (c:aN):Int:=if c.right=true then(if c.fm=1 then 24 else vw c.fr)+c.fr else 0
def jo (c:aN)(f:Fr):Bool:=if c.fm=1 then decide (f.id=0)else decide (f.nm.size=0)
def aX (c:aN)(f:Fr):ByteArray×Int:=
 if c.fm=1 then(if b8 f.nm=true then(if 65536<f.body.size then(ByteArray.empty,5)else(nw c.mg f.nm f.body,0))else(ByteArray.empty,11))
 else if c.fm=2 then(if 65536<(aQ f.id).length+f.body.size then(ByteArray.empty,5)else(⟨(eD f.id f.body.data.toList).toArray⟩,0))
 else(if c.un<f.body.size then(ByteArray.empty,5)else if 65536<(aQ f.id).length+(pack f.body.data.toList).length then(ByteArray.empty,5)else(⟨(eD f.id (pack f.body.data.toList)).toArray⟩,0))
def fx (c:aN)(f:Fr):ByteArray×Int:=
 if c.right=true/\jo c f=true then(if(aX c f).2≠0 then(ByteArray.empty,(aX c f).2)else if(bd c (aX c f).1).1=5 then(ByteArray.empty,5)else((aX c f).1,0))else(ByteArray.empty,1)
theorem E5 (m:Nat)(most:Int)(nm body more:ByteArray)(b:b8 nm=true)(k:most<(body.size:Int))(h:body.size<4294967296):(aV m most (nw m nm body++more)).1=5:=by
 have hz:=dC b;have o:=lW m nm body hz.2;obtain⟨i,d,j,p,l,n⟩:=B5 (kx m) (eY nm) (kx body.size) (eQ body) body more (df _) (ik nm hz.2) (df _) (lQ _) (nw m nm body++more) rfl;have c:=uh body.size h;have e:(cI (eY nm)).1=0:=by rw[BQ nm b]
 unfold aV;rw[i,d,j,c,zh (by omega),zh (by simp),zh (by omega),zh (by simp[e]),zh (by omega),zi (by omega)]
theorem lj (s:ByteArray):s++ByteArray.empty=s:=aB (by rw[aP];simp)
theorem Pe {c:aN}{f:Fr}{S:ByteArray}(hid:f.id<18446744073709551616)(h:fx c f=(S,0))(more:ByteArray):(∃m,bd c (S++more)=(0,f,S.size,m))/\(S.size:Int)<=sU c:=by
 unfold fx at h;by_cases p:c.right=true/\jo c f=true;case neg=>rw[zh p]at h;injection h with _ h;cases h
 rw[zi p]at h;by_cases b:(aX c f).2≠0
 ·rw[zi b]at h;injection h with _ h;exact absurd h b
 rw[zh b]at h;by_cases d:(bd c (aX c f).1).1=5
 ·rw[zi d]at h;injection h with _ h;cases h
 rw[zh d]at h;injection h with h _;rw[h]at d;have b:=zC.1 b;obtain⟨q,l⟩:=p;have C:=(c.bW).1 q;obtain⟨id,nm,body⟩:=f;unfold aX at h b;unfold jo at l;unfold sU;rw[zi q];unfold bd at d⊢;simp only at h b l hid;by_cases o:c.fm=1
 ·rw[zi o]at h b l d⊢;rw[zi o];have y:id=0:=by simpa using l
  cases hm:b8 nm with
  |false=>rw[hm]at b;simp at b
  |true=>
   rw[hm]at b h;simp only[xA]at b h;by_cases e:65536<body.size
   ·rw[zi e]at b;simp at b
   rw[zh e]at h;simp only at h;have i:(body.size:Int)<=c.fr:=by
    rcases Int.lt_or_le c.fr (body.size:Int)with aD|ke
    ·have:=E5 c.mg c.fr nm body ByteArray.empty hm aD (by omega);rw[lj,h]at this;exact absurd this d
    exact ke
   have k:=Ih c.mg c.fr nm body more hm i (by omega);have hz:=lW c.mg nm body (dC hm).2;rw[h]at k hz;rw[k,y];exact⟨⟨0,by rw[hz]⟩,by rw[hz];omega⟩
 rw[zh o]at h b l d⊢;rw[zh o];have s:nm=ByteArray.empty:=by
  have:nm.size=0:=by simpa using l
  apply aB;exact zo (by rw[aa];exact this)
 have u:∀N:Nat,(N:Int)<=c.fr->(((aQ N).length+N:Nat):Int)<=vw c.fr+c.fr:=fun N D=>by
  unfold vw;split
  ·have:=bo 1 N (by omega) (by omega);omega
  split
  ·have:=bo 2 N (by omega) (by omega);omega
  have:=bo 3 N (by omega) (by omega);omega
 by_cases r:c.fm=2
 ·rw[zi r]at h b d⊢;by_cases e:65536<(aQ id).length+body.size
  ·rw[zi e]at b;simp at b
  rw[zh e]at h;simp only at h;have j:S.data.toList=eD id body.data.toList:=by rw[<-h]
  have i:(((aQ id++body.data.toList).length:Nat):Int)<=c.fr:=by
   rcases Int.lt_or_le c.fr (((aQ id++body.data.toList).length:Nat):Int)with aD|ke
   ·have:=vl c.fr id body.data.toList S [] (by rw[j,yO]) (by rw[zj,aa];omega);rw[zi aD]at this;have:=nr c.fr S (by rw[this]);rw[this]at d;exact absurd rfl d
   exact ke
  rw[zj,aa]at i;have k:=vh c.fr id body (S++more) more.data.toList hid (by rw[aP,j]) (by omega) (by omega);have n:S.size=(eD id body.data.toList).length:=by rw[<-aa,j]
  rw[k,s];refine⟨⟨0,by rw[n]⟩, ?_⟩;have:=u ((aQ id).length+body.size) i;rw[n];unfold eD;rw[zj,zj,aa];exact this
 rw[zh r]at h b d⊢;by_cases hu:c.un<body.size
 ·rw[zi hu]at b;simp at b
 rw[zh hu]at h b;by_cases e:65536<(aQ id).length+(pack body.data.toList).length
 ·rw[zi e]at b;simp at b
 rw[zh e]at h;simp only at h;have w:body.data.toList.length<=65536:=by rw[aa];omega
 have j:S.data.toList=eD id (pack body.data.toList):=by rw[<-h]
 have i:(((aQ id++pack body.data.toList).length:Nat):Int)<=c.fr:=by
  rcases Int.lt_or_le c.fr (((aQ id++pack body.data.toList).length:Nat):Int)with aD|ke
  ·have:=vl c.fr id (pack body.data.toList) S [] (by rw[j,yO]) (by rw[zj];omega);rw[zi aD]at this;have:=nr c.fr S (by rw[this]);have z:aR c.fr c.un S=(5,0,ByteArray.empty,0,0):=by rw[bu,this];simp
   rw[z]at d;exact absurd rfl d
  exact ke
 rw[zj]at i;have k:=vh c.fr id ⟨(pack body.data.toList).toArray⟩ (S++more) more.data.toList hid (by rw[aP,j]) (by rw[bB];omega) (by rw[bB];omega);simp only at k;have x:=BY ⟨(pack body.data.toList).toArray⟩ body.data.toList w rfl;have B:=EY ⟨(pack body.data.toList).toArray⟩ body.data.toList w rfl c.un (by rw[aa];omega);have n:S.size=(eD id (pack body.data.toList)).length:=by rw[<-aa,j]
 have A:aR c.fr c.un (S++more)=(0,id,body,(eD id (pack body.data.toList)).length,body.size):=by
  rw[bu,k];simp only[ne_eq,yU,xG];rw[x];simp only[yU,xG];rw[aa,zh (by omega),B];simp only[yU,xG,iJ]
 rw[A,s];refine⟨⟨body.size,by rw[n]⟩, ?_⟩;have:=u ((aQ id).length+(pack body.data.toList).length) i;rw[n];unfold eD;rw[zj,zj];exact this
theorem vx (m:Nat)(most:Int)(s:ByteArray)(h:(aV m most s).1≠0):aV m most s=((aV m most s).1,ByteArray.empty,ByteArray.empty,0):=by
 unfold aV at h⊢;by_cases i:s.size<4
 ·rw[zi i]
 rw[zh i]at h⊢;by_cases e:s.extract 0 4≠kx m
 ·rw[zi e]
 rw[zh e]at h⊢;by_cases l:s.size<16
 ·rw[zi l]
 rw[zh l]at h⊢;by_cases k:(cI (s.extract 4 16)).1≠0
 ·rw[zi k]
 rw[zh k]at h⊢;by_cases b:s.size<20
 ·rw[zi b]
 rw[zh b]at h⊢;generalize cZ (s.extract 16 20).data.toList=N at*;by_cases d:most<N
 ·rw[zi d]
 rw[zh d]at h⊢;by_cases c:s.size<24+N
 ·rw[zi c]
 rw[zh c]at h⊢;by_cases j:eQ (s.extract 24 (24+N))≠s.extract 20 24
 ·rw[zi j]
 rw[zh j]at h;exact absurd rfl h
theorem C3 (m:Nat)(most:Int)(s:ByteArray)(n:0<=most)(h:(aV m most s).1=2):(s.size:Int)<24+most:=by
 unfold aV at h;by_cases k:s.size<4
 ·omega
 rw[zh k]at h;by_cases c:s.extract 0 4≠kx m
 ·rw[zi c]at h;cases h
 rw[zh c]at h;by_cases l:s.size<16
 ·omega
 rw[zh l]at h;by_cases e:(cI (s.extract 4 16)).1≠0
 ·rw[zi e]at h;cases h
 rw[zh e]at h;by_cases i:s.size<20
 ·omega
 rw[zh i]at h;generalize cZ (s.extract 16 20).data.toList=N at*;by_cases b:most<N
 ·rw[zi b]at h;cases h
 rw[zh b]at h;by_cases j:s.size<24+N
 ·omega
 rw[zh j]at h;by_cases d:eQ (s.extract 24 (24+N))≠s.extract 20 24
 ·rw[zi d]at h;cases h
 rw[zh d]at h;cases h
theorem Pf (most:Int)(s:ByteArray)(h:(ai most s).1≠0):ai most s=((ai most s).1,0,ByteArray.empty,0):=by
 rw[dT]at h⊢;split
 ·rfl
 split
 ·rfl
 split
 ·rfl
 rename_i c b d
 rw[zh c,zh b,zh d]at h;exact absurd rfl h
theorem Kt {b:Int}(N:Nat)(c:(N:Int)<=b)(d:b<=65536):(((aQ N).length+N:Nat):Int)<=vw b+b:=by
 unfold vw;split
 ·have:=bo 1 N (by omega) (by omega);omega
 split
 ·have:=bo 2 N (by omega) (by omega);omega
 have:=bo 3 N (by omega) (by omega);omega
theorem qo (b:Int)(s:ByteArray)(i:b<=65536)(h:(ai b s).1=2):(s.size:Int)<max (vw b+b) 10:=by
 rw[dT]at h;by_cases c:(ar b s).2.2≠0
 ·rw[zi c]at h;have h:(ar b s).2.2=2:=h;unfold ar at h;by_cases d:(au s).2.2=0
  ·rw[zi d]at h;split at h<;>cases h
  rw[zh d]at h;have:=AU s h;omega
 rw[zh c]at h;have c:=zC.1 c;have j:=oh b s c;have k:(ar b s).2.1=(aQ (ar b s).1).length:=by
  unfold ar at c⊢;by_cases d:(au s).2.2=0
  ·rw[zi d]at c⊢;by_cases e:b<(au s).1
   ·rw[zi e]at c;cases c
   rw[zh e];exact(lV s d).2
  rw[zh d]at c;exact absurd c d
 by_cases d:s.size<(ar b s).2.1+(ar b s).1
 ·have:=Kt (ar b s).1 j.1 i;omega
 rw[zh d]at h;split at h<;>cases h
theorem Ij (b d:Int)(s:ByteArray)(h:(aR b d s).1=2):(ai b s).1=2:=by
 rw[bu]at h;by_cases c:(ai b s).1≠0
 ·rw[zi c]at h;exact h
 rw[zh c]at h;split at h
 ·split at h<;>cases h
 split at h
 ·cases h
 split at h<;>cases h
theorem sV (b d:Int)(s:ByteArray)(h:(aR b d s).1=0):(ai b s).1=0/\(aR b d s).2.1=(ai b s).2.1/\(aR b d s).2.2.2.1=(ai b s).2.2.2:=by
 rw[bu]at h⊢;by_cases c:(ai b s).1≠0
 ·rw[zi c]at h;exact absurd h c
 rw[zh c]at h⊢;split at h
 ·split at h<;>cases h
 rename_i i
 rw[zh i];split at h
 ·cases h
 rename_i e
 rw[zh e];split at h
 ·cases h
 rename_i j
 rw[zh j];exact⟨zC.1 c,rfl,rfl⟩
theorem Ik (c b:Int)(s:ByteArray)(h:(aR c b s).1≠0):(aR c b s).2.1=0/\(aR c b s).2.2.1=ByteArray.empty/\(aR c b s).2.2.2.1=0:=by
 rw[bu]at h⊢;split
 ·exact⟨rfl,rfl,rfl⟩
 rename_i d
 rw[zh d]at h;split
 ·exact⟨rfl,rfl,rfl⟩
 rename_i i
 rw[zh i]at h;split
 ·exact⟨rfl,rfl,rfl⟩
 rename_i e
 rw[zh e]at h;split
 ·exact⟨rfl,rfl,rfl⟩
 rename_i j
 rw[zh j]at h;exact absurd rfl h
theorem vy (c:aN)(s:ByteArray)(h:(bd c s).1≠0):(bd c s).2.1=rG/\(bd c s).2.2.1=0:=by
 unfold bd at h⊢;by_cases d:c.fm=1
 ·rw[zi d]at h⊢;have h:(aV c.mg c.fr s).1≠0:=h;rw[vx c.mg c.fr s h];exact⟨rfl,rfl⟩
 rw[zh d]at h⊢;by_cases b:c.fm=2
 ·rw[zi b]at h⊢;have h:(ai c.fr s).1≠0:=h;rw[Pf c.fr s h];exact⟨rfl,rfl⟩
 rw[zh b]at h⊢;obtain⟨j,i,e⟩:=Ik c.fr c.un s h;exact⟨by rw[j,i];rfl,e⟩
theorem Mx {c:aN}{s:ByteArray}(e:c.right=true)(h:(bd c s).1=0):((bd c s).2.2.1:Int)<=sU c/\(bd c s).2.2.1<=s.size/\(bd c s).2.1.id<18446744073709551616:=by
 have p:=(c.bW).1 e;unfold sU;rw[zi e];unfold bd at h⊢;have k:(ai c.fr s).1=0->((ai c.fr s).2.2.2:Int)<=vw c.fr+c.fr/\(ai c.fr s).2.2.2<=s.size/\(ai c.fr s).2.1<18446744073709551616:=fun h=>by
  obtain⟨b,d,j,i,_⟩:=vm c.fr s (ai c.fr s).2.1 (ai c.fr s).2.2.1 (ai c.fr s).2.2.2 (ZH h rfl);exact⟨by rw[i];exact Kt _ j (by omega),b,d⟩
 by_cases b:c.fm=1
 ·rw[zi b]at h⊢;rw[zi b];obtain⟨_,j,i,m,_⟩:=vu c.mg c.fr s (aV c.mg c.fr s).2.1 (aV c.mg c.fr s).2.2.1 (aV c.mg c.fr s).2.2.2 (ZH h rfl);exact⟨by simp only;omega,m,by simp⟩
 rw[zh b]at h⊢;rw[zh b];by_cases d:c.fm=2
 ·rw[zi d]at h⊢;exact k h
 rw[zh d]at h⊢;obtain⟨o,n,l⟩:=sV c.fr c.un s h;have:=k o;simp only;rw[n,l];exact this
theorem Pg (c:aN)(s:ByteArray)(k:Nat)(e:k<=s.size):(bd c (s.extract 0 k)).1=2\/bd c (s.extract 0 k)=bd c s:=by
 unfold bd;by_cases d:c.fm=1
 ·rw[zi d,zi d];rcases Ii c.mg c.fr s k e with h|h
  ·exact .inl h
  right;rw[h]
 rw[zh d,zh d];by_cases b:c.fm=2
 ·rw[zi b,zi b];rcases vi c.fr s k e with h|h
  ·right;rw[h]
  left;rw[h]
 rw[zh b,zh b];rcases Ib c.fr c.un s k e with h|⟨_,h⟩
 ·left;rw[h]
 right;rw[h]
theorem Il {c:aN}{s:ByteArray}(d:c.right=true)(h:(bd c s).1=2):(s.size:Int)<max (sU c) 10:=by
 have i:=(c.bW).1 d;unfold sU;rw[zi d];unfold bd at h;by_cases e:c.fm=1
 ·rw[zi e]at h⊢;have:=C3 c.mg c.fr s (by omega) h;omega
 rw[zh e]at h⊢;by_cases b:c.fm=2
 ·rw[zi b]at h;exact qo c.fr s (by omega) h
 rw[zh b]at h;exact qo c.fr s (by omega) (Ij _ _ _ h)
theorem C4 (s t:ByteArray):(s++t).extract 0 s.size=s:=by
 apply aB;rw[an,aP,zK,zX (by rw[aa];exact zd _),cQ]
theorem Ph (c:aN)(s t:ByteArray)(h:(bd c s).1≠2):bd c (s++t)=bd c s:=by
 have:=Pg c (s++t) s.size (by rw[bD];omega);rw[C4]at this;rcases this with h1|h1
 ·exact absurd h1 h
 exact h1.symm
theorem TB {c:aN}{s:ByteArray}(h:(bd c s).1=2):bd c s=(2,rG,0,0):=by
 unfold bd at h⊢;by_cases d:c.fm=1
 ·rw[zi d]at h⊢;have h:(aV c.mg c.fr s).1=2:=h;have:=vx c.mg c.fr s (by rw[h];decide);rw[this,h];rfl
 rw[zh d]at h⊢;by_cases b:c.fm=2
 ·rw[zi b]at h⊢;have h:(ai c.fr s).1=2:=h;have:=Pf c.fr s (by rw[h];decide);rw[this,h];rfl
 rw[zh b]at h⊢;have h:(aR c.fr c.un s).1=2:=h;rw[ql c.fr c.un s h];rfl
theorem Pj {c:aN}{s:ByteArray}(h:(bd c s).1=0):0<(bd c s).2.2.1:=by
 have e:(ai c.fr s).1=0->0<(ai c.fr s).2.2.2:=fun h=>by
  obtain⟨_,_,_,k,_⟩:=vm c.fr s (ai c.fr s).2.1 (ai c.fr s).2.2.1 (ai c.fr s).2.2.2 (ZH h rfl);have:=qj ((aQ (ai c.fr s).2.1).length+(ai c.fr s).2.2.1.size);omega
 unfold bd at h⊢;by_cases d:c.fm=1
 ·rw[zi d]at h⊢;obtain⟨_,_,k,_⟩:=vu c.mg c.fr s (aV c.mg c.fr s).2.1 (aV c.mg c.fr s).2.2.1 (aV c.mg c.fr s).2.2.2 (ZH h rfl);simp only;omega
 rw[zh d]at h⊢;by_cases b:c.fm=2
 ·rw[zi b]at h⊢;exact e h
 rw[zh b]at h⊢;obtain⟨j,_,i⟩:=sV c.fr c.un s h;simp only;rw[i];exact e j
theorem bz {c:aN}(b:c.right=true)(s:ByteArray):aK c s=bd c s:=by unfold aK;rw[zi b]
theorem gR (c:aN):jK (aK c):=by
 cases hr:c.right with
 |false=>
  have e:∀s,aK c s=(1,rG,0,0):=fun s=>by unfold aK;rw[hr];rfl
  exact⟨(fun s h=>by rw[e]at h;cases h),(fun s t _=>by rw[e,e]),(fun s h=>by rw[e])⟩
 |true=>
  refine⟨fun s h=> ?_,fun s t h=> ?_,fun s h=> ?_⟩
  ·rw[bz hr]at h⊢;exact⟨Pj h,(Mx hr h).2.1⟩
  ·rw[bz hr]at h;rw[bz hr,bz hr];exact Ph c s t h
  rw[bz hr]at h⊢;rw[TB h]
theorem Im {c:aN}(i:c.right=true):(aK c ByteArray.empty).1=2:=by
 rw[bz i];have h:au ByteArray.empty=(0,0,2):=jD _ _ _ _ (by simp);have b:ai c.fr ByteArray.empty=(2,0,ByteArray.empty,0):=by
  rw[dT];have:ar c.fr ByteArray.empty=(0,0,2):=by unfold ar;rw[h];rfl
  rw[this];rfl
 unfold bd;by_cases e:c.fm=1
 ·rw[zi e];unfold aV;rfl
 rw[zh e];by_cases d:c.fm=2
 ·rw[zi d,b]
 rw[zh d,bu,b];rfl
def gS (c:aN)(s:ByteArray):Nat:=
 if c.fm=1 then(if s.size<24 then 0 else 24+cZ (s.extract 16 20).data.toList)
 else if(ar c.fr s).2.2≠0 then 0 else(ar c.fr s).2.1+(ar c.fr s).1
theorem C5 (s t:ByteArray)(i j:Nat)(h:j<=s.size):(s++t).extract i j=s.extract i j:=by
 have:=ir (s++t) s.size i j h;rw[C4]at this;exact this.symm
theorem Fa (m:Nat)(most:Int)(s t:ByteArray)(h:(aV m most s).1=2)(i:24<=s.size)(e:(s++t).size<24+cZ (s.extract 16 20).data.toList):(aV m most (s++t)).1=2:=by
 have hz:=bD s t;unfold aV at h⊢;rw[C5 s t 0 4 (by omega),C5 s t 4 16 (by omega),C5 s t 16 20 (by omega)];rw[zh (by omega)]at h⊢;by_cases c:s.extract 0 4≠kx m
 ·rw[zi c]at h;cases h
 rw[zh c]at h⊢;rw[zh (by omega)]at h⊢;by_cases d:(cI (s.extract 4 16)).1≠0
 ·rw[zi d]at h;cases h
 rw[zh d]at h⊢;rw[zh (by omega)]at h⊢;generalize cZ (s.extract 16 20).data.toList=N at*;by_cases b:most<N
 ·rw[zi b]at h;cases h
 rw[zh b,zi e]
theorem Io (most:Int)(s t:ByteArray)(h:(ar most s).2.2=0):ar most (s++t)=ar most s:=by
 have b:=nn (s++t) s.size (by rw[bD];omega);rw[C4]at b;rcases b with b|b
 ·unfold ar;rw[b]
 unfold ar at h;rw[b]at h;cases h
theorem Fb (most:Int)(s t:ByteArray)(b:(ar most s).2.2=0)(c:(s++t).size<(ar most s).2.1+(ar most s).1):(ai most (s++t)).1=2:=by
 rw[dT,Io most s t b,zh (by rw[b];simp),zi c]
theorem Fc (c:aN)(s t:ByteArray)(h:(bd c s).1=2)(b:(s++t).size<gS c s):(bd c (s++t)).1=2:=by
 unfold gS at b;by_cases d:c.fm=1
 ·rw[zi d]at b;unfold bd at h⊢;rw[zi d]at h⊢;by_cases i:s.size<24
  ·rw[zi i]at b;omega
  rw[zh i]at b;exact Fa c.mg c.fr s t h (by omega) b
 rw[zh d]at b;by_cases e:(ar c.fr s).2.2≠0
 ·rw[zi e]at b;omega
 rw[zh e]at b;have:=Fb c.fr s t (zC.1 e) b;unfold bd;rw[zh d];by_cases j:c.fm=2
 ·rw[zi j];exact this
 rw[zh j,bu,zi (by rw[this];decide)];exact this
theorem Fe (s:ByteArray)(size k b:Nat)(out:List UInt8)(h:out.length<=size)(c:(bV s size k b out).1=0):(bV s size k b out).2.2.length<=size:=by
 unfold bV at c⊢;by_cases i:s.size<k+bj b
 ·rw[zi i];exact h
 rw[zh i]at c⊢;by_cases e:(b%4≠0/\(kn b (iK s k b)=0\/out.length<kn b (iK s k b)))\/size-out.length<cO b (iK s k b)
 ·rw[zi e];exact h
 rw[zh e]at c⊢;by_cases j:b%4=0
 ·rw[zi j]at c⊢;by_cases d:s.size<k+bj b+cO b (iK s k b)
  ·rw[zi d];exact h
  rw[zh d];simp only[zj,aa];rw[aj _ _ _ (by omega)];omega
 rw[zh j];simp only[uS];omega
theorem Ku (s:ByteArray)(size:Nat):∀(f k:Nat) (out:List UInt8),out.length<=size->(fL s size f k out).2.length<=size
 |0,k,out,_=>by simp[fL]
 |f+1,k,out,h=>by
  unfold fL;by_cases c:k<s.size
  ·rw[Z1 c];by_cases b:(bV s size k s[k].toNat out).1=0
   ·rw[zi b];exact Ku s size f _ _ (Fe s size k _ out h b)
   rw[zh b];simp
  rw[dif_neg c];split
  ·simp
  exact h
theorem Ff (b c:Int)(s:ByteArray):(((aR b c s).2.2.1.size:Nat):Int)<=max c 0:=by
 rw[bu];split
 ·show((0:Nat):Int)<=_;omega
 split
 ·show((0:Nat):Int)<=_;omega
 split
 ·show((0:Nat):Int)<=_;omega
 split
 ·show((0:Nat):Int)<=_;omega
 rename_i h d e i
 show(((aZ (ai b s).2.2.1 c).2.length:Nat):Int)<=_
 unfold aZ jd;rw[zh d,zh e];have:=Ku ((ai b s).2.2.1.extract (ay (ai b s).2.2.1).2.1 (ai b s).2.2.1.size) (ay (ai b s).2.2.1).1 (((ai b s).2.2.1.extract (ay (ai b s).2.2.1).2.1 (ai b s).2.2.1.size).size+1) 0 [] (by simp);omega
theorem Ip (s:ByteArray)(a b:Nat):(s.extract a b).size<=s.size:=by simp;omega
theorem Iq (s:ByteArray):(cI s).2.size<=12:=by
 unfold cI;split
 ·rename_i h;exact(dC h.2).2
 exact yc _
theorem Fg (m:Nat)(most:Int)(s:ByteArray):(aV m most s).2.1.size<=12/\(aV m most s).2.2.1.size<=s.size:=by
 unfold aV;repeat' split
 all_goals dsimp only
 all_goals first|with_reducible exact⟨Iq _,Ip _ _ _⟩|exact⟨by simp,by simp⟩
theorem Fh (most:Int)(s:ByteArray):(ai most s).2.2.1.size<=s.size:=by
 by_cases h:(ai most s).1=0
 ·rw[dT]at h⊢;generalize ar most s=p at*;generalize au (s.extract p.2.1 (p.2.1+p.1))=q at*;by_cases c:p.2.2≠0
  ·rw[zi c];exact yc _
  rw[zh c]at h⊢;by_cases b:s.size<p.2.1+p.1
  ·rw[zi b];exact yc _
  rw[zh b]at h⊢;by_cases d:q.2.2≠0
  ·rw[zi d];exact yc _
  rw[zh d];exact zF (Ip _ _ _) (Ip _ _ _)
 rw[Pf most s h];exact yc _
theorem My (c:aN)(s:ByteArray):(bd c s).2.1.nm.size<=12/\(((bd c s).2.1.body.size:Nat):Int)<=max (s.size:Int) (max c.un 0):=by
 unfold bd;split
 ·have:=Fg c.mg c.fr s;exact⟨this.1,by have:=this.2;show(((aV c.mg c.fr s).2.2.1.size:Nat):Int)<=_;omega⟩
 split
 ·have:=Fh c.fr s;exact⟨yc _,by show(((ai c.fr s).2.2.1.size:Nat):Int)<=_;omega⟩
 have:=Ff c.fr c.un s;exact⟨yc _,by show(((aR c.fr c.un s).2.2.1.size:Nat):Int)<=_;omega⟩
theorem B6 {s:ByteArray}{size:Nat}:∀(f k:Nat) (out:List UInt8),out.length<=size->(fL s size f k out).1=0->(fL s size f k out).2.length=size
 |0,k,out,_,h=>by simp[fL]at h
 |f+1,k,out,ho,h=>by
  unfold fL at h⊢;by_cases c:k<s.size
  ·rw[Z1 c]at h⊢;by_cases b:(bV s size k s[k].toNat out).1=0
   ·rw[zi b]at h⊢;exact B6 f _ _ (Fe s size k _ out ho b) h
   rw[zh b]at h;exact absurd h b
  rw[dif_neg c]at h⊢;by_cases b:out.length<size
  ·rw[zi b]at h;cases h
  rw[zh b];show out.length=size;omega
theorem Fi (b c:Int)(s:ByteArray)(h:(aR b c s).1=0):(aR b c s).2.2.2.2=(aR b c s).2.2.1.size:=by
 rw[bu]at h⊢;by_cases i:(ai b s).1≠0
 ·rw[zi i]at h;exact absurd h i
 rw[zh i]at h⊢;by_cases e:(ay (ai b s).2.2.1).2.2≠0
 ·rw[zi e]at h;simp only at h;split at h<;>cases h
 rw[zh e]at h⊢;by_cases k:c<(ay (ai b s).2.2.1).1
 ·rw[zi k]at h;cases h
 rw[zh k]at h⊢;by_cases j:(aZ (ai b s).2.2.1 c).1≠0
 ·rw[zi j]at h;cases h
 rw[zh j];have d:=zC.1 j;show(ay (ai b s).2.2.1).1=(aZ (ai b s).2.2.1 c).2.length
 unfold aZ at d⊢;rw[zh e,zh k]at d⊢;exact(B6 _ _ _ (by simp) d).symm
theorem Ir (c b:Int)(s:ByteArray)(hu:0<=b):((aR c b s).2.2.2.2:Int)<=b:=by
 rw[bu];by_cases e:(ai c s).1≠0
 ·rw[zi e];exact hu
 rw[zh e];by_cases d:(ay (ai c s).2.2.1).2.2≠0
 ·rw[zi d];exact hu
 rw[zh d];by_cases h:b<(ay (ai c s).2.2.1).1
 ·rw[zi h];exact hu
 rw[zh h];split
 ·show(((ay (ai c s).2.2.1).1:Nat):Int)<=b;omega
 show(((ay (ai c s).2.2.1).1:Nat):Int)<=b;omega
theorem Is {c:aN}(e:c.fm≠3)(s:ByteArray):(aK c s).2.2.2=0:=by
 unfold aK;by_cases b:c.right=true
 ·rw[zi b];have:=(c.bW).1 b;unfold bd;by_cases d:c.fm=1
  ·rw[zi d]
  rw[zh d,zi (by omega)]
 rw[zh b]
theorem Fj {c:aN}(b:c.right=true)(d:c.fm=3)(s:ByteArray):((aK c s).1=0->(aK c s).2.2.2=(aK c s).2.1.body.size)/\((aK c s).2.2.2:Int)<=c.un:=by
 have:=(c.bW).1 b;rw[bz b];unfold bd;rw[zh (by omega),zh (by omega)];exact⟨Fi _ _ _,Ir _ _ _ (by omega)⟩
theorem WT (c:aN)(s:ByteArray):(split (aK c) s).1.length<=s.size:=by
 have:=Tk (gR c) s;rw[<-this,List.length_map];exact(OQ (gR c) s).2.2
theorem Pk (c:aN)(s:ByteArray):(split (aK c) s).2.1.size<=s.size:=by
 obtain⟨k,b,e⟩:=mr (gR c) s;rw[e,aj _ _ _ (zd _)];omega
open Go.RowKit
def iQ (c:aN)(b:ByteArray)(nd:Nat):Prop:=∀T:ByteArray,(b++T).size<nd->(aK c (b++T)).1=2
theorem iQ.zero (c:aN)(b:ByteArray):iQ c b 0:=fun T h=>absurd h (by omega)
theorem iQ.here {c:aN}{b:ByteArray}{d:Nat}(h:iQ c b d)(e:b.size<d):(aK c b).1=2:=by
 have:=h ByteArray.empty (by rw[lj];exact e);rwa [lj]at this
theorem iQ.more {c:aN}{b:ByteArray}{i:Nat}(h:iQ c b i)(s:ByteArray):iQ c (b++s) i:=fun T d=>by
 have e:b++s++T=b++(s++T):=aB (by simp only[aP,zB]);rw[e]at d⊢;exact h _ d
theorem iQ.of {c:aN}(e:c.right=true){b:ByteArray}(h:(aK c b).1=2):iQ c b (gS c b):=fun T d=>by
 rw[bz e]at h⊢;exact Fc c b T h d
theorem cy {v:Value}{k:Nat}:k∈v.ownBlock.toList↔v.ownBlock=some k:=by simp
theorem mP.only {a b:World}{v c:Value}(h:mP a b v c):ae v.ownBlock.toList a b:=ae.dR h.grown
theorem bL.qp {w w':World}{base:Nat}{E:TypeId}{v:Value}{l:List UInt8}{L:List Nat}(h:bL w base E v l)(c:ae L w w')(b:∀k,v.ownBlock=some k->k∉L):bL w' base E v l:=h.ag fun k d e=>c.block k d (b k e)
def mH (g:Nat)(bv:Value):List Nat:=g::bv.ownBlock.toList
theorem iR {g:Nat}{b:Value}{k:Nat}:k∈mH g b↔k=g\/b.ownBlock=some k:=by simp[mH]
def bA (n:Nat):Nat:=if n<253 then n else if n<65536 then 253 else if n<4294967296 then 254 else 255
def bp (b:Nat):Nat:=if b=253 then 2 else if b=254 then 4 else 8
def dy (n:Nat):List UInt8:=if n<253 then [ub n]else ub (bA n)::iq n (bp (bA n))
def aw :List UInt8->Nat×Nat×Int
 | []=>(0,0,2)
 |b::t=>if b.toNat<253 then(b.toNat,1,0)else if t.length<bp b.toNat then(0,0,2)
  else if bA (cZ (t.take (bp b.toNat)))=b.toNat then(cZ (t.take (bp b.toNat)),1+bp b.toNat,0)else(0,0,3)
theorem ny (b:Nat):2<=bp b/\bp b<=8:=by unfold bp;split<;>(try split)<;>omega
theorem Iu (n:Nat):bA n<256:=by unfold bA;split<;>(try split)<;>(try split)<;>omega
theorem Iv {n:Nat}(h:¬n<253):253<=bA n:=by unfold bA;rw[zh h];split<;>(try split)<;>omega
theorem uj {n:Nat}(h:¬n<253)(d:n<18446744073709551616):n<2^(8*bp (bA n)):=by
 unfold bA;rw[zh h];by_cases c:n<65536
 ·rw[zi c];show n<2^16;omega
 rw[zh c];by_cases b:n<4294967296
 ·rw[zi b];show n<2^32;omega
 rw[zh b];show n<2^64;omega
theorem ju (n:Nat):1<=(dy n).length/\(dy n).length<=9:=by
 unfold dy;split
 ·simp
 have:=ny (bA n);simp[bh];omega
theorem vz (n:Nat)(q:List UInt8)(c:n<18446744073709551616):aw (dy n++q)=(n,(dy n).length,0):=by
 unfold dy;by_cases h:n<253
 ·rw[zi h];simp only[zV,yu,aw,bn n (by omega),zi h,yv]
 rw[zh h];have d:=Iv h;have b:=Iu n;simp only[zV,aw,bn _ b,zh (show¬bA n<253 by omega)];rw[zh (by rw[zj,bh];omega),ZJ (bh _ _),O8 _ _ (uj h c),zi rfl];simp[bh,Zs]
theorem iS (r:List UInt8)(n z:Nat)(h:aw r=(n,z,0)):n<18446744073709551616/\z<=r.length/\r.take z=dy n/\(dy n).length=z:=by
 cases r with
 |nil=>cases h
 |cons b t=>
  have l:=b.toNat_lt;have i:ub (b.toNat:Nat)=b:=by apply zO.1;rw[bn _ l]
  simp only[aw]at h;by_cases c:b.toNat<253
  ·rw[zi c]at h;injection h with e1 e2;injection e2 with e2 _;subst e1 e2;refine⟨by omega,by simp, ?_, ?_⟩
   ·unfold dy;rw[zi c,i];rfl
   unfold dy;rw[zi c];rfl
  rw[zh c]at h;by_cases j:t.length<bp b.toNat
  ·rw[zi j]at h;injection h with _ h;injection h with _ h;cases h
  rw[zh j]at h;by_cases e:bA (cZ (t.take (bp b.toNat)))=b.toNat
  ·rw[zi e]at h;injection h with e1 e2;injection e2 with e2 _;have q:=jL (t.take (bp b.toNat));have d:(t.take (bp b.toNat)).length=bp b.toNat:=by rw[zU];omega
   have m:=ny b.toNat;rw[d]at q;have s:2^(8*bp b.toNat)<=18446744073709551616:=le_pow _ m.2;have k:dy n=b::t.take (bp b.toNat):=by
    subst e1;have p:¬cZ (t.take (bp b.toNat))<253:=by
     intro o;have:bA (cZ (t.take (bp b.toNat)))=cZ (t.take (bp b.toNat)):=by unfold bA;rw[zi o]
     omega
    unfold dy;rw[zh p,e,i];congr 1
    have:=O9 (t.take (bp b.toNat));rwa [d]at this
   refine⟨by omega,by simp only[zw];omega, ?_, ?_⟩
   ·rw[k,<-e2,Zs,zP]
   rw[k,zw,d];omega
  rw[zh e]at h;injection h with _ h;injection h with _ h;cases h
theorem Fk (r:List UInt8):aw (r.take 9)=aw r:=by
 cases r with
 |nil=>rfl
 |cons b t=>
  have c:=ny b.toNat;simp only[zP,aw];rw[xe,show min (bp b.toNat) 8=bp b.toNat from by omega,zU];by_cases h:t.length<bp b.toNat
  ·rw[zi (show min 8 t.length<bp b.toNat by omega),zi h]
  rw[zh (show¬min 8 t.length<bp b.toNat by omega),zh h]
theorem Kv (n:Nat):lP (cH n)=n:=by
 induction n using Nat.strongRecOn with
 |ind n ih=>
  by_cases h:n=0
  ·subst h;rw[dq];rfl
  rw[gQ h,uP,ih (n/256) (by omega),bn _ (by omega)];omega
theorem Kw (n:Nat)(h:n≠0):cH n≠ []:=by rw[gQ h];simp
theorem B7 (n:Nat)(h:n≠0):(cH n).getD 0 0≠0:=by
 induction n using Nat.strongRecOn with
 |ind n ih=>
  rw[gQ h];by_cases c:n/256=0
  ·rw[c,dq,yu];intro e;have d:=bn (n%256) (by omega);simp only[ZO]at e;rw[e]at d;simp at d;omega
  have:=ih (n/256) (by omega) c;cases hl:cH (n/256)with
  |nil=>exact absurd hl (Kw _ c)
  |cons a b=>rw[hl]at this;simpa using this
theorem Fl (l:List UInt8)(h:l.getD 0 0≠0):cH (lP l)=l:=by
 obtain⟨k,d⟩:∃k,l.length=k:=⟨_,rfl⟩
 induction k generalizing l with
 |zero=>obtain rfl:=zo d;simp at h
 |succ k ih=>
  have c:l≠ []:=by intro e;subst e;simp at d
  have e:=List.dropLast_concat_getLast c;have p:=(l.getLast c).toNat_lt;by_cases m:k=0
  ·subst m;match l,d with
   | [b],_=>
    have o:b.toNat≠0:=fun e=>h (by simp;exact zO.1 e)
    have r:=b.toNat_lt;have n:lP [b]=b.toNat:=by simp[lP,cZ]
    rw[n,gQ o,show b.toNat/256=0 from by omega,dq,yu];congr 1
    apply zO.1;rw[bn _ (by omega)];omega
  have i:l.dropLast.getD 0 0≠0:=by
   have:l.dropLast.getD 0 0=l.getD 0 0:=by
    rw[zv,zv,List.getElem?_dropLast,zi (by omega)]
   rw[this];exact h
  have j:=ih l.dropLast i (by rw[List.length_dropLast];omega);rw[<-e,uP,gQ,show(256*lP l.dropLast+(l.getLast c).toNat)/256=lP l.dropLast from by omega,j]
  ·congr 2
   apply zO.1;rw[bn _ (by omega)];omega
  intro q;have:lP l.dropLast=0:=by omega
  rw[this,dq]at j;rw[<-j]at i;simp at i
def cK (b n:Nat):List UInt8:=if n<=55 then [ub ((b+n:Nat):Int)]else ub ((b+55+(cH n).length:Nat):Int)::cH n
mutual
def It.gI :It->List UInt8
 | .mk t l s=>if l=true then cK 192 (gH s).length++gH s else if t.size=1/\(t.data.toList.getD 0 0).toNat<128 then t.data.toList else cK 128 t.size++t.data.toList
def gH :List It->List UInt8
 | []=> []
 |x::xs=>x.gI++gH xs
end
def lk (b:List UInt8):List UInt8:=cK 192 b.length++b
def ep (xs:List It)(b:List UInt8)(rest:List (List It×List UInt8)):List UInt8:=rest.foldl (fun inner f=>f.2++(lk inner++gH f.1)) (b++gH xs)
theorem pg (b c:List UInt8)(d:List It)(rest:List (List It×List UInt8)):ep [] b ((d,c)::rest)=ep d (c++lk b) rest:=by simp[ep,gH]
theorem nz (x:It)(xs:List It)(b:List UInt8)(rest:List (List It×List UInt8)):ep (x::xs) b rest=ep xs (b++x.gI) rest:=by simp[ep,gH]
theorem Fm (t:ByteArray)(s:List It)(xs:List It)(b:List UInt8)(rest:List (List It×List UInt8)):ep (.mk t true s::xs) b rest=ep s [] ((xs,b)::rest):=by simp[ep,gH,It.gI,lk]
def AV (s:ByteArray):Bool×Nat×Nat×Int:=
 let b:=(s.data.toList.getD 0 0).toNat
 if b<128 then(false,0,1,0)
 else
  let l:=decide (192<=b)
  let told:=if 192<=b then b-192 else b-128
  let size:=if told<=55 then 1 else 1+(told-55)
  let n:=if told<=55 then told else lP (s.extract 1 size).data.toList
  if told<=55 then
   if s.size<size+n then(false,0,0,2)
   else if l=false/\n=1/\(s.data.toList.getD 1 0).toNat<128 then(false,0,0,3)
   else(l,1,told,0)
  else
   if s.size<size then(false,0,0,2)
   else if(s.data.toList.getD 1 0).toNat=0\/n<=55 then(false,0,0,3)
   else if s.size<size+n then(false,0,0,2)
   else(l,size,n,0)
def hd (s:ByteArray)(deep many:Bool):Bool×Nat×Nat×Int:=
 if s.size=0 then(false,0,0,2)else if deep=true then(false,0,0,6)else if many=true then(false,0,0,4)else AV s
theorem WU (s:ByteArray)(k:0<s.size)(h:(AV s).2.2.2=0):(AV s).2.1+(AV s).2.2.1<=s.size/\1<=(AV s).2.1+(AV s).2.2.1/\((AV s).1=true->1<=(AV s).2.1):=by
 unfold AV at h⊢;dsimp only at h⊢;generalize (s.data.toList.getD 0 0).toNat=b at*;by_cases e:b<128
 ·rw[zi e]at h⊢;dsimp only;refine⟨by omega,by omega,by simp⟩
 rw[zh e]at h⊢;generalize (if 192<=b then b-192 else b-128)=told at*;by_cases i:told<=55
 ·simp only[zi i]at h⊢;by_cases c:s.size<1+told
  ·rw[zi c]at h;simp at h
  rw[zh c]at h⊢;split at h
  ·simp at h
  rename_i d;rw[zh d];dsimp only;refine⟨by omega,by omega,fun _=>by omega⟩
 simp only[zh i]at h⊢;generalize lP (s.extract 1 (1+(told-55))).data.toList=n at*;by_cases c:s.size<1+(told-55)
 ·rw[zi c]at h;simp at h
 rw[zh c]at h⊢;split at h
 ·simp at h
 rename_i d
 rw[zh d];split at h
 ·simp at h
 rename_i j
 rw[zh j];dsimp only;refine⟨by omega,by omega,fun _=>by omega⟩
theorem sW (s:ByteArray)(d m:Bool)(h:(hd s d m).2.2.2=0):0<s.size/\(hd s d m).2.1+(hd s d m).2.2.1<=s.size/\1<=(hd s d m).2.1+(hd s d m).2.2.1/\((hd s d m).1=true->1<=(hd s d m).2.1):=by
 unfold hd at h⊢;by_cases b:s.size=0
 ·rw[zi b]at h;simp at h
 rw[zh b]at h⊢;by_cases c:d=true
 ·rw[zi c]at h;simp at h
 rw[zh c]at h⊢;by_cases e:m=true
 ·rw[zi e]at h;simp at h
 rw[zh e]at h⊢;exact⟨by omega,WU s (by omega) h⟩
structure Rd where
 x:It
 size:Nat
 items:Nat
 e:Int
structure Kx where
 xs:List It
 items:Nat
 e:Int
def jv :It:= .mk ByteArray.empty false []
def Rd.bad (e:Int):Rd:=⟨jv,0,0,e⟩
def Kx.bad (e:Int):Kx:=⟨[],0,e⟩
def aF (D:Int)(deep:Nat):Bool:=decide (D<deep)||decide (16<deep)
def aG (M:Int)(ahead:Nat):Bool:=decide (M<ahead+1)||decide (1024<ahead+1)
def within (e:Int):Int:=if e=2 then 3 else e
mutual
def qq (D M:Int):Nat->ByteArray->Nat->Nat->Rd
 |0,_,_,_=>Rd.bad 2
 |f+1,s,deep,ahead=>
  if(hd s (aF D deep) (aG M ahead)).2.2.2≠0 then Rd.bad (hd s (aF D deep) (aG M ahead)).2.2.2
  else if(hd s (aF D deep) (aG M ahead)).1=false then
   ⟨.mk (s.extract (hd s (aF D deep) (aG M ahead)).2.1 ((hd s (aF D deep) (aG M ahead)).2.1+(hd s (aF D deep) (aG M ahead)).2.2.1)) false [],
    (hd s (aF D deep) (aG M ahead)).2.1+(hd s (aF D deep) (aG M ahead)).2.2.1,1,0⟩
  else
   if(Fo D M f (s.extract (hd s (aF D deep) (aG M ahead)).2.1 ((hd s (aF D deep) (aG M ahead)).2.1+(hd s (aF D deep) (aG M ahead)).2.2.1)) (deep+1) (ahead+1)).e≠0
   then Rd.bad (Fo D M f (s.extract (hd s (aF D deep) (aG M ahead)).2.1 ((hd s (aF D deep) (aG M ahead)).2.1+(hd s (aF D deep) (aG M ahead)).2.2.1)) (deep+1) (ahead+1)).e
   else⟨.mk ByteArray.empty true (Fo D M f (s.extract (hd s (aF D deep) (aG M ahead)).2.1 ((hd s (aF D deep) (aG M ahead)).2.1+(hd s (aF D deep) (aG M ahead)).2.2.1)) (deep+1) (ahead+1)).xs,
    (hd s (aF D deep) (aG M ahead)).2.1+(hd s (aF D deep) (aG M ahead)).2.2.1,
    1+(Fo D M f (s.extract (hd s (aF D deep) (aG M ahead)).2.1 ((hd s (aF D deep) (aG M ahead)).2.1+(hd s (aF D deep) (aG M ahead)).2.2.1)) (deep+1) (ahead+1)).items,0⟩
def Fo (D M:Int):Nat->ByteArray->Nat->Nat->Kx
 |0,_,_,_=>Kx.bad 2
 |f+1,s,deep,ahead=>
  if s.size=0 then⟨[],0,0⟩
  else if(qq D M f s deep ahead).e≠0 then Kx.bad (within (qq D M f s deep ahead).e)
  else if(Fo D M f (s.extract (qq D M f s deep ahead).size s.size) deep (ahead+(qq D M f s deep ahead).items)).e≠0
   then Kx.bad (Fo D M f (s.extract (qq D M f s deep ahead).size s.size) deep (ahead+(qq D M f s deep ahead).items)).e
  else⟨(qq D M f s deep ahead).x::(Fo D M f (s.extract (qq D M f s deep ahead).size s.size) deep (ahead+(qq D M f s deep ahead).items)).xs,
   (qq D M f s deep ahead).items+(Fo D M f (s.extract (qq D M f s deep ahead).size s.size) deep (ahead+(qq D M f s deep ahead).items)).items,0⟩
end
theorem nB (D M:Int)(f:Nat)(s:ByteArray)(deep ahead:Nat)(h:(qq D M f s deep ahead).e=0):1<=(qq D M f s deep ahead).size/\(qq D M f s deep ahead).size<=s.size:=by
 cases f with
 |zero=>simp[qq,Rd.bad]at h
 |succ f=>
  rw[qq]at h⊢;have d:=sW s (aF D deep) (aG M ahead);generalize hd s (aF D deep) (aG M ahead)=H at*;by_cases b:H.2.2.2≠0
  ·rw[zi b]at h;exact absurd h b
  rw[zh b]at h⊢;have d:=d (zC.1 b);by_cases e:H.1=false
  ·rw[zi e];dsimp only;omega
  rw[zh e]at h⊢;split at h
  ·rename_i c;exact absurd h c
  rename_i c;rw[zh c];dsimp only;omega
theorem C6 (D M:Int):∀(z:Nat),(∀(s:ByteArray) (deep ahead f g:Nat),s.size<=z->2*s.size<=f->2*s.size<=g->qq D M f s deep ahead=qq D M g s deep ahead)/\
 (∀(s:ByteArray) (deep ahead f g:Nat),s.size<=z->2*s.size+1<=f->2*s.size+1<=g->Fo D M f s deep ahead=Fo D M g s deep ahead):=by
 intro z;induction z with
 |zero=>
  refine⟨fun s deep ahead f g hz _ _=> ?_,fun s deep ahead f g hz h i=> ?_⟩
  ·have e:s.size=0:=by omega
   have o:∀d m,hd s d m=(false,0,0,2):=fun d m=>by simp[hd,e]
   have:∀f,qq D M f s deep ahead=Rd.bad 2:=by
    intro f;cases f with
    |zero=>rfl
    |succ f=>rw[qq];simp[o]
   rw[this f,this g]
  obtain⟨f,rfl⟩:∃k,f=k+1:=⟨f-1,by omega⟩
  obtain⟨g,rfl⟩:∃k,g=k+1:=⟨g-1,by omega⟩
  rw[Fo,Fo,zi (by omega),zi (by omega)]
 |succ z ih=>
  obtain⟨p,l⟩:=ih;have n:∀(s:ByteArray) (deep ahead f g:Nat),s.size<=z+1->2*s.size<=f->2*s.size<=g->qq D M f s deep ahead=qq D M g s deep ahead:=by
   intro s deep ahead f g hz h i;by_cases e:s.size=0
   ·exact p s deep ahead f g (by omega) h i
   obtain⟨f,rfl⟩:∃k,f=k+1:=⟨f-1,by omega⟩
   obtain⟨g,rfl⟩:∃k,g=k+1:=⟨g-1,by omega⟩
   rw[qq,qq];have c:=sW s (aF D deep) (aG M ahead);generalize hd s (aF D deep) (aG M ahead)=H at*;by_cases b:H.2.2.2≠0
   ·rw[zi b,zi b]
   have c:=c (zC.1 b);by_cases j:H.1=false
   ·rw[zh b,zh b,zi j,zi j]
   have r:=c.2.2.2 (by simpa using j);have q:(s.extract H.2.1 (H.2.1+H.2.2.1)).size=H.2.2.1:=by rw[aj _ _ _ c.2.1];omega
   rw[l (s.extract H.2.1 (H.2.1+H.2.2.1)) (deep+1) (ahead+1) f g (by omega) (by omega) (by omega)]
  refine⟨n,fun s deep ahead f g hz h i=> ?_⟩;by_cases e:s.size=0
  ·exact l s deep ahead f g (by omega) h i
  obtain⟨f,rfl⟩:∃k,f=k+1:=⟨f-1,by omega⟩
  obtain⟨g,rfl⟩:∃k,g=k+1:=⟨g-1,by omega⟩
  rw[Fo,Fo,zh e,zh e,n s deep ahead f g hz (by omega) (by omega)];have c:=nB D M g s deep ahead;generalize qq D M g s deep ahead=R at*;by_cases b:R.e≠0
  ·rw[zi b,zi b]
  have c:=c (zC.1 b);have q:(s.extract R.size s.size).size=s.size-R.size:=aj _ _ _ (zd _);rw[l (s.extract R.size s.size) deep (ahead+R.items) f g (by omega) (by omega) (by omega)]
def bq (D M:Int)(s:ByteArray)(deep ahead:Nat):Rd:=qq D M (2*s.size+2) s deep ahead
def cR (D M:Int)(s:ByteArray)(deep ahead:Nat):Kx:=Fo D M (2*s.size+1) s deep ahead
theorem dU (D M:Int)(s:ByteArray)(deep ahead:Nat)(H:Bool×Nat×Nat×Int)(e:hd s (aF D deep) (aG M ahead)=H):bq D M s deep ahead=
 if H.2.2.2≠0 then Rd.bad H.2.2.2
 else if H.1=false then⟨.mk (s.extract H.2.1 (H.2.1+H.2.2.1)) false [],H.2.1+H.2.2.1,1,0⟩
 else if(cR D M (s.extract H.2.1 (H.2.1+H.2.2.1)) (deep+1) (ahead+1)).e≠0 then Rd.bad (cR D M (s.extract H.2.1 (H.2.1+H.2.2.1)) (deep+1) (ahead+1)).e
 else⟨.mk ByteArray.empty true (cR D M (s.extract H.2.1 (H.2.1+H.2.2.1)) (deep+1) (ahead+1)).xs,H.2.1+H.2.2.1,1+(cR D M (s.extract H.2.1 (H.2.1+H.2.2.1)) (deep+1) (ahead+1)).items,0⟩:=by
 subst e;rw[bq,qq];have c:=sW s (aF D deep) (aG M ahead);generalize hd s (aF D deep) (aG M ahead)=H at*;by_cases b:H.2.2.2≠0
 ·rw[zi b,zi b]
 have c:=c (zC.1 b);by_cases d:H.1=false
 ·rw[zh b,zh b,zi d,zi d]
 have h:(s.extract H.2.1 (H.2.1+H.2.2.1)).size=H.2.2.1:=by rw[aj _ _ _ c.2.1];omega
 rw[cR,(C6 D M s.size).2 (s.extract H.2.1 (H.2.1+H.2.2.1)) (deep+1) (ahead+1) (2*s.size+1) (2*(s.extract H.2.1 (H.2.1+H.2.2.1)).size+1) (by omega) (by omega) (by omega)]
theorem jE (D M:Int)(s:ByteArray)(deep ahead:Nat)(h:s.size=0):cR D M s deep ahead=⟨[],0,0⟩:=by rw[cR,Fo,zi h]
theorem iu (D M:Int)(s:ByteArray)(deep ahead:Nat)(h:s.size≠0)(R:Rd)(d:bq D M s deep ahead=R):cR D M s deep ahead=
 if R.e≠0 then Kx.bad (within R.e)
 else if(cR D M (s.extract R.size s.size) deep (ahead+R.items)).e≠0 then Kx.bad (cR D M (s.extract R.size s.size) deep (ahead+R.items)).e
 else⟨R.x::(cR D M (s.extract R.size s.size) deep (ahead+R.items)).xs,R.items+(cR D M (s.extract R.size s.size) deep (ahead+R.items)).items,0⟩:=by
 subst d;rw[cR,Fo,zh h,bq,(C6 D M s.size).1 s deep ahead (2*s.size) (2*s.size+2) (by omega) (by omega) (by omega)];have c:=nB D M (2*s.size+2) s deep ahead;generalize qq D M (2*s.size+2) s deep ahead=R at*;by_cases b:R.e≠0
 ·rw[zi b,zi b]
 have c:=c (zC.1 b);have e:(s.extract R.size s.size).size=s.size-R.size:=aj _ _ _ (zd _);rw[cR,(C6 D M s.size).2 (s.extract R.size s.size) deep (ahead+R.items) (2*s.size) (2*(s.extract R.size s.size).size+1) (by omega) (by omega) (by omega)]
mutual
def It.lay :It->Ty->List UInt8
 | .mk tx _ s,t=>if t.kind=1 then iq (lP tx.data.toList) t.size.toNat else if t.kind=2 then tx.data.toList else if t.kind=3 then dy tx.size++tx.data.toList
  else if t.kind=4 then dy s.length++cz s t 0 else cz s t 0
def cz :List It->Ty->Nat->List UInt8
 | [],_,_=> []
 |x::xs,t,i=>x.lay (t.at i)++cz xs t (i+1)
end
theorem sX (a b:List It)(t:Ty)(i:Nat):cz (a++b) t i=cz a t i++cz b t (i+a.length):=by
 induction a generalizing i with
 |nil=>simp[cz]
 |cons x xs ih=>simp only[zV,cz,ih,zw,zB];rw[show i+1+xs.length=i+(xs.length+1)from by omega]
theorem B8 {s:List It}{k:Nat}{t:Ty}(h:k<s.length):cz (s.take (k+1)) t 0=cz (s.take k) t 0++s[k].lay (t.at k):=by
 rw[lS s k h,sX];simp[cz,yw (Yh h)]
mutual
def Ty.full :Ty->Bool
 | .mk _ _ l t=>decide (t=0)&&ca l
def ca :List Ty->Bool
 | []=>true
 |x::xs=>x.full&&ca xs
end
def Ty.flat (t:Ty):Bool:=t.may&&ca t.sub
structure SO where
 e:Int
 x:It
 n:Nat
 q:List UInt8
structure ll where
 e:Int
 xs:List It
 n:Nat
 q:List UInt8
def SO.bad (e:Int)(n:Nat)(q:List UInt8):SO:=⟨e,jv,n,q⟩
def ll.cons (x:It)(r:ll):ll:=⟨r.e,x::r.xs,r.n,r.q⟩
def ll.list (r:ll):SO:=⟨r.e,.mk ⟨#[]⟩ true r.xs,r.n,r.q⟩
def tG (f:Nat->List UInt8->SO):Nat->Nat->List UInt8->ll
 |0,n,r=>⟨0,[],n,r⟩
 |c+1,n,r=>if(f n r).e≠0 then⟨(f n r).e,[(f n r).x],(f n r).n,(f n r).q⟩else(tG f c (f n r).n (f n r).q).cons (f n r).x
mutual
def Ty.rd (M:Int):Ty->Nat->List UInt8->SO
 | .mk k z l ta,n,r=>
  if M<=n then .bad 4 n r
  else if k=1 then(if r.length<z.toNat then .bad 2 (n+1) r else⟨0,.mk ⟨(cH (cZ (r.take z.toNat))).toArray⟩ false [],n+1,r.drop z.toNat⟩)
  else if k=2 then(if r.length<z.toNat then .bad 2 (n+1) r else⟨0,.mk ⟨(r.take z.toNat).toArray⟩ false [],n+1,r.drop z.toNat⟩)
  else if k=3 then
   (if(aw r).2.2≠0 then .bad (aw r).2.2 (n+1) r else if z<(aw r).1 then .bad 5 (n+1) r
   else if(r.drop (aw r).2.1).length<(aw r).1 then .bad 2 (n+1) (r.drop (aw r).2.1)
   else⟨0,.mk ⟨((r.drop (aw r).2.1).take (aw r).1).toArray⟩ false [],n+1,(r.drop (aw r).2.1).drop (aw r).1⟩)
  else if k=4 then
   (if(aw r).2.2≠0 then .bad (aw r).2.2 (n+1) r else if z<(aw r).1 then .bad 5 (n+1) r
   else(rdF M l (aw r).1 (n+1) (r.drop (aw r).2.1)).list)
  else(om M l ((l.length:Int)-ta).toNat (n+1) r).list
def rdF (M:Int):List Ty->Nat->Nat->List UInt8->ll
 | [],_,n,r=>⟨0,[],n,r⟩
 |x::_,c,n,r=>tG (fun n r=>x.rd M n r) c n r
def om (M:Int):List Ty->Nat->Nat->List UInt8->ll
 | [],_,n,r=>⟨0,[],n,r⟩
 |x::xs,m,n,r=>if m=0/\r= []then⟨0,[],n,r⟩
  else if(x.rd M n r).e≠0 then⟨(x.rd M n r).e,[(x.rd M n r).x],(x.rd M n r).n,(x.rd M n r).q⟩
  else(om M xs (m-1) (x.rd M n r).n (x.rd M n r).q).cons (x.rd M n r).x
end
theorem WV (l:List UInt8)(h:gB l=false):cH (lP l)=l:=by
 cases l with
 |nil=>simp[lP,cZ,dq]
 |cons b t=>
  apply Fl;have:(b==0)=false:=h;intro e;have c:b=0:=by simpa using e
  rw[c]at this;simp at this
theorem vA {s:List It}(h:dh s=true):∀x∈s,x.right=true:=by
 induction s with
 |nil=>simp
 |cons y ys ih=>
  simp only[dh,zx]at h;intro x hx;rcases y9.1 hx with rfl|hx
  ·exact h.1
  exact ih h.2 x hx
theorem lX {k z:Int}{l:List Ty}{b:Int}(h:(Ty.mk k z l b).full=true):b=0/\ca l=true:=by
 simpa only[Ty.full,zx,zY]using h
def Pl (t:Ty)(x:It)(q:List UInt8):Prop:=t.kind=5->(x.sub.length<t.sub.length->q= [])/\∀j (hj:j<x.sub.length) (mS:j<t.sub.length),((t.sub.length:Int)-t.tail).toNat<=j->(x.sub[j]).lay (t.sub[j])≠ []
theorem nC {t:Ty}{x:It}(h:t.full=true)(hi:x.dj t=true)(q:List UInt8):Pl t x q:=by
 intro d;obtain⟨k,z,l,p⟩:=t;obtain⟨m,b,s⟩:=x;obtain⟨rfl,_⟩:=lX h;simp only[Ty.Kk]at d;subst d;simp[It.dj,oJ]at hi;obtain⟨⟨⟨_,o⟩,n⟩,_⟩:=hi;refine⟨fun c=> ?_,fun j e i c=> ?_⟩
 ·simp only[It.gM,Ty.gM]at c;omega
 simp only[It.gM,Ty.gM,Ty.CY]at e i c;omega
theorem Ky {M:Int}{a t:Ty}{f:Nat->List UInt8->SO}:∀(s:List It) (i n:Nat) (q:List UInt8),(∀j,t.at (i+j)=a)->(∀x∈s,∀(n:Nat) (q:List UInt8),(n:Int)+x.count<=M->f n (x.lay a++q)=⟨0,x,n+x.count,q⟩)->(n:Int)+aM s<=M->
 tG f s.length n (cz s t i++q)=⟨0,s,n+aM s,q⟩
 | [],i,n,q,_,_,_=>by simp[tG,cz,aM]
 |x::xs,i,n,q,ha,hf,hM=>by
  simp only[aM]at hM;have b:=ha 0;rw[y8]at b;have hx:=hf x (by simp) n (cz xs t (i+1)++q) (by omega);rw[zw,cz,b,zB,tG,hx];simp only[ne_eq,yU,xG];rw[Ky xs (i+1) (n+x.count) q (fun j=>by have:=ha (j+1);rwa [show i+(j+1)=i+1+j from by omega]at this) (fun y c=>hf y (by simp[c])) (by omega)];simp[ll.cons,aM,ym]
theorem Kz {M:Int}{t:Ty}:∀(b:List Ty) (s:List It) (m i n:Nat) (q:List UInt8),(∀j (h:j<b.length),t.at (i+j)=b[j])->m<=s.length->s.length<=b.length->(s.length<b.length->q= [])->
 (∀j (c:j<s.length) (d:j<b.length),m<=j->(s[j]).lay (b[j])≠ [])->
 (∀j (c:j<s.length) (d:j<b.length),∀(n:Nat) (q:List UInt8),(n:Int)+(s[j]).count<=M->(b[j]).rd M n ((s[j]).lay (b[j])++q)=⟨0,s[j],n+(s[j]).count,q⟩)->(n:Int)+aM s<=M->
 om M b m n (cz s t i++q)=⟨0,s,n+aM s,q⟩
 | [],s,m,i,n,q,_,_,hs,_,_,_,_=>by
  obtain rfl:s= []:=zo (by simpa using hs);simp[om,cz,aM]
 |a::b,[],m,i,n,q,_,hm,_,hq,_,_,_=>by
  have k:m=0:=by simpa using hm
  have o:=hq (by simp);subst k o;simp[om,cz,aM]
 |a::b,x::xs,m,i,n,q,ha,hm,hs,hq,cB,hf,hM=>by
  simp only[aM]at hM;have e:=ha 0 (by simp);rw[y8]at e;have hx:=hf 0 (by simp) (by simp) n (cz xs t (i+1)++q) (by simp only[yQ];omega);simp only[yQ]at hx e;rw[cz,e,zB,om,hx];rw[zh (by
   rintro⟨k,l⟩;have:=cB 0 (by simp) (by simp) (by omega);simp only[yQ]at this;exact this (List.append_eq_nil_iff.1 l).1)]
  simp only[ne_eq,yU,xG];rw[Kz b xs (m-1) (i+1) (n+x.count) q (fun j c=>by have:=ha (j+1) (by simpa using c);simpa[show i+(j+1)=i+1+j from by omega]using this) (by simp at hm;omega) (by simpa using hs) (fun h=>hq (by simpa using h))
   (fun j c d h=>by have:=cB (j+1) (by simpa using c) (by simpa using d) (by omega);simpa using this) (fun j c d=>by have:=hf (j+1) (by simpa using c) (by simpa using d);simpa using this) (by omega)]
  simp[ll.cons,aM,ym]
theorem KA {z:Int}{l:List Ty}{d:Int}{c:ByteArray}{b:Bool}{m:Nat}(h:oJ (.mk 1 z l d) c b m=true):b=false/\(c.size:Int)<=z/\gB c.data.toList=false:=by
 simp[oJ]at h;exact⟨h.1.1,ye h.1.2,h.2⟩
theorem C7 {z:Int}{l:List Ty}{d:Int}{c:ByteArray}{b:Bool}{m:Nat}(h:oJ (.mk 2 z l d) c b m=true):b=false/\(c.size:Int)=z:=by
 simp[oJ]at h;exact⟨h.1,ye h.2⟩
theorem rM {z:Int}{l:List Ty}{d:Int}{c:ByteArray}{b:Bool}{m:Nat}(h:oJ (.mk 3 z l d) c b m=true):b=false/\(c.size:Int)<=z:=by
 simp[oJ]at h;exact⟨h.1,ye h.2⟩
theorem Fp {z:Int}{l:List Ty}{c:Int}{d:ByteArray}{b:Bool}{m:Nat}(h:oJ (.mk 4 z l c) d b m=true):b=true/\(m:Int)<=z:=by
 simp[oJ]at h;exact⟨h.1,ye h.2⟩
theorem qs {z:Int}{l:List Ty}{c:Int}{d:ByteArray}{b:Bool}{m:Nat}(h:oJ (.mk 5 z l c) d b m=true):b=true/\m<=l.length/\(l.length:Int)-c<=m:=by
 simp[oJ]at h;exact⟨h.1.1,ye h.1.2,ye h.2⟩
theorem uk (c:ByteArray)(b:Bool)(s:List It)(z:Int)(l:List Ty)(d:Int):(It.mk c b s).lay (.mk 1 z l d)=iq (lP c.data.toList) z.toNat:=rfl
theorem uq (c:ByteArray)(b:Bool)(s:List It)(z:Int)(l:List Ty)(d:Int):(It.mk c b s).lay (.mk 2 z l d)=c.data.toList:=rfl
theorem oo (c:ByteArray)(b:Bool)(s:List It)(z:Int)(l:List Ty)(d:Int):(It.mk c b s).lay (.mk 3 z l d)=dy c.size++c.data.toList:=rfl
theorem qt (d:ByteArray)(b:Bool)(s:List It)(z:Int)(l:List Ty)(c:Int):(It.mk d b s).lay (.mk 4 z l c)=dy s.length++cz s (.mk 4 z l c) 0:=rfl
theorem nD (d:ByteArray)(b:Bool)(s:List It)(z:Int)(l:List Ty)(c:Int):(It.mk d b s).lay (.mk 5 z l c)=cz s (.mk 5 z l c) 0:=rfl
theorem KB {M:Int}{n:Nat}(h:M<=n)(t:Ty)(r:List UInt8):t.rd M n r= .bad 4 n r:=by obtain⟨k,z,l,b⟩:=t;rw[Ty.rd,zi h]
theorem Iw {M:Int}{n:Nat}(h:¬M<=n)(z:Int)(l:List Ty)(b:Int)(r:List UInt8):(Ty.mk 1 z l b).rd M n r=if r.length<z.toNat then .bad 2 (n+1) r else⟨0,.mk ⟨(cH (cZ (r.take z.toNat))).toArray⟩ false [],n+1,r.drop z.toNat⟩:=by rw[Ty.rd,zh h];rfl
theorem Ix {M:Int}{n:Nat}(h:¬M<=n)(z:Int)(l:List Ty)(b:Int)(r:List UInt8):(Ty.mk 2 z l b).rd M n r=if r.length<z.toNat then .bad 2 (n+1) r else⟨0,.mk ⟨(r.take z.toNat).toArray⟩ false [],n+1,r.drop z.toNat⟩:=by rw[Ty.rd,zh h];rfl
theorem vB {M:Int}{n:Nat}(h:¬M<=n)(z:Int)(l:List Ty)(b:Int)(r:List UInt8):(Ty.mk 3 z l b).rd M n r=if(aw r).2.2≠0 then .bad (aw r).2.2 (n+1) r else if z<(aw r).1 then .bad 5 (n+1) r
 else if(r.drop (aw r).2.1).length<(aw r).1 then .bad 2 (n+1) (r.drop (aw r).2.1)
 else⟨0,.mk ⟨((r.drop (aw r).2.1).take (aw r).1).toArray⟩ false [],n+1,(r.drop (aw r).2.1).drop (aw r).1⟩:=by rw[Ty.rd,zh h];rfl
theorem C8 {M:Int}{n:Nat}(h:¬M<=n)(z:Int)(l:List Ty)(b:Int)(r:List UInt8):(Ty.mk 4 z l b).rd M n r=if(aw r).2.2≠0 then .bad (aw r).2.2 (n+1) r else if z<(aw r).1 then .bad 5 (n+1) r
 else(rdF M l (aw r).1 (n+1) (r.drop (aw r).2.1)).list:=by rw[Ty.rd,zh h];rfl
theorem ur {M:Int}{n:Nat}(h:¬M<=n)(z:Int)(l:List Ty)(b:Int)(r:List UInt8):(Ty.mk 5 z l b).rd M n r=(om M l ((l.length:Int)-b).toNat (n+1) r).list:=by rw[Ty.rd,zh h];rfl
theorem lp :∀(s:List It) (t:Ty) (i:Nat),cV s t i=true->∀j (h:j<s.length),(s[j]).dj (t.at (i+j))=true
 | [],_,_,_,j,h=>by simp at h
 |x::xs,t,i,hi,0,h=>by simp only[cV,zx]at hi;simpa using hi.1
 |x::xs,t,i,hi,j+1,h=>by
  simp only[cV,zx]at hi;have:=lp xs t (i+1) hi.2 j (by simpa using h);rw[show i+(j+1)=i+1+j from by omega];simpa using this
theorem Fq {s:List Ty}(h:ca s=true):∀k (b:k<s.length),(s[k]).full=true:=by
 induction s with
 |nil=>intro k b;simp at b
 |cons x xs ih=>
  simp only[ca,zx]at h;intro k b;cases k with
  |zero=>exact h.1
  |succ k=>exact ih h.2 k (by simpa using b)
theorem Pm (M:Int)(hM:M<=1024)(x:It):∀(t:Ty) (n:Nat) (q:List UInt8),t.right=true->ca t.sub=true->Pl t x q->x.dj t=true->x.right=true->(n:Int)+x.count<=M->
 t.rd M n (x.lay t++q)=⟨0,x,n+x.count,q⟩:=by
 induction x using It.ind with
 |h tx b s ih=>
  intro t n q hr G uC hi hx N;obtain⟨k,z,l,d⟩:=t;obtain⟨bF,X⟩:=jM hr;obtain⟨u,ad⟩:=nt hx;have S:=vA ad;have r:¬M<=(n:Int):=by simp only[It.count]at N;omega
  simp only[It.dj,zx]at hi;obtain⟨c,dW⟩:=hi;have L:=lp s _ 0 dW;simp only[zM]at L;simp only[Ty.gM]at G;rcases lT bF with⟨rfl,hs,y,I⟩|⟨rfl,E,D,y,I⟩|⟨rfl,E,D,y,I⟩|⟨rfl,E,D,y,I⟩|⟨rfl,E,D,h5,h6⟩
  ·replace c:=KA c;obtain⟨rfl,hz,GL⟩:=c;have m:s= []:=by simpa[formed]using u
   subst m;have W:=uQ tx.data.toList;rw[aa]at W;have A:tx.size<=z.toNat:=by omega
   have NY:lP tx.data.toList<2^(8*z.toNat):=zT W (yp (by omega) (by omega));rw[uk,Iw r];rw[zh (by rw[zj,bh];omega),ZJ (bh _ _),ZL (bh _ _),O8 _ _ NY,WV _ GL,iJ];simp[It.count,aM]
  ·replace c:=C7 c;obtain⟨rfl,hz⟩:=c;have m:s= []:=by simpa[formed]using u
   subst m;have A:tx.data.toList.length=z.toNat:=by rw[aa];omega
   rw[uq,Ix r];rw[zh (by rw[zj];omega),ZJ A,ZL A,iJ];simp[It.count,aM]
  ·replace c:=rM c;obtain⟨rfl,hz⟩:=c;have m:s= []:=by simpa[formed]using u
   subst m;have O:=vz tx.size (tx.data.toList++q) (by omega);have B:(dy tx.size++(tx.data.toList++q)).drop (dy tx.size).length=tx.data.toList++q:=ZL rfl;rw[oo,zB,vB r];rw[O];simp only[B];rw[zh (by simp),zh (by omega),zh (by rw[zj,aa];omega),ZJ (aa tx),ZL (aa tx),iJ];simp[It.count,aM]
  ·replace c:=Fp c;obtain⟨rfl,hz⟩:=c;have K:tx=⟨#[]⟩:=by
    have:tx.size=0:=by simpa[formed]using u
    exact aB (by simp[zo ((aa tx).trans this)])
   subst K;obtain⟨a,rfl⟩:=Yi.1 y;have o:∀j,(Ty.mk 4 z [a] d).at j=a:=fun j=>by unfold Ty.at;simp
   have J:a.right=true:=by simpa[bM]using X
   have p:a.full=true:=by simpa[ca]using G
   have O:=vz s.length (cz s (.mk 4 z [a] d) 0++q) (by omega);have B:(dy s.length++(cz s (.mk 4 z [a] d) 0++q)).drop (dy s.length).length=cz s (.mk 4 z [a] d) 0++q:=ZL rfl;simp only[It.count]at N;have C:=Ky (M:=M) (a:=a) (t:= .mk 4 z [a] d) (f:=fun n ab=>a.rd M n ab) s 0 (n+1) q (fun j=>o _) (fun x i n q F=>by
    obtain⟨j,w,rfl⟩:=yW i;have e:=L j w;rw[o]at e;obtain⟨ak,Z,al,at_⟩:=a;exact ih _ i _ n q J (lX p).2 (nC p e q) e (S _ i) F) (by omega)
   rw[qt,zB,C8 r];rw[O];simp only[B,rdF];rw[zh (by simp),zh (by omega),C];simp[ll.list,It.count,ym]
  replace c:=qs c;obtain⟨rfl,cl,cC⟩:=c;have K:tx=⟨#[]⟩:=by
   have:tx.size=0:=by simpa[formed]using u
   exact aB (by simp[zo ((aa tx).trans this)])
  subst K;have o:∀j (h:j<l.length),(Ty.mk 5 z l d).at (0+j)=l[j]:=fun j h=>by unfold Ty.at;simp[h]
  obtain⟨R,Y⟩:=uC rfl;simp only[It.gM,Ty.gM,Ty.CY]at R Y;simp only[It.count]at N;have C:=Kz (M:=M) (t:= .mk 5 z l d) l s ((l.length:Int)-d).toNat 0 (n+1) q o (by omega) cl R Y (fun j w H n q F=>by
   have i:=zN w;have e:=L j w;have U:=o j H;rw[zM]at U;rw[U]at e;have p:=Fq G j H;have J:=dQ X j H;generalize l[j]=a at*;obtain⟨ak,Z,al,at_⟩:=a;exact ih _ i _ n q J (lX p).2 (nC p e q) e (S _ i) F) (by omega)
  rw[nD,ur r];rw[C];simp[ll.list,It.count,ym]
structure TC (M:Int)(t:Ty)(n:Nat)(r:List UInt8)(R:SO):Prop where
 dj:R.x.dj t=true
 right:R.x.right=true
 num:R.n=n+R.x.count
 many:(R.n:Int)<=M
 lay:r=R.x.lay t++R.q
 deep:R.x.deep<=t.deep
structure Vp (M:Int)(t:Ty)(i n:Nat)(r:List UInt8)(R:ll):Prop where
 dj:cV R.xs t i=true
 right:dh R.xs=true
 num:R.n=n+aM R.xs
 many:(R.n:Int)<=M
 lay:r=cz R.xs t i++R.q
theorem Fs {M:Int}{a t:Ty}{f:Nat->List UInt8->SO}(l:∀n r,(f n r).e=0->TC M a n r (f n r)):∀(c i n:Nat) (r:List UInt8),(∀j,t.at (i+j)=a)->(n:Int)<=M->(tG f c n r).e=0->
 Vp M t i n r (tG f c n r)/\(tG f c n r).xs.length=c/\cJ (tG f c n r).xs<=a.deep
 |0,i,n,r,_,hM,_=>⟨⟨rfl,rfl,by simp[tG,aM],hM,by simp[tG,cz]⟩,rfl,by simp[tG,cJ]⟩
 |c+1,i,n,r,ha,hM,h=>by
  rw[tG]at h⊢;by_cases e:(f n r).e=0
  ·rw[zh (by simp[e])]at h⊢;have b:=l n r e;obtain⟨d,m,q⟩:=Fs l c (i+1) (f n r).n (f n r).q (fun j=>by have:=ha (j+1);rwa [show i+(j+1)=i+1+j from by omega]at this) b.many h;have k:=ha 0;rw[y8]at k;refine⟨⟨?_, ?_, ?_,d.many, ?_⟩,by simp[ll.cons,m], ?_⟩
   ·simp only[ll.cons,cV,k,b.dj,d.dj,Bool.and_self]
   ·simp only[ll.cons,dh,b.right,d.right,Bool.and_self]
   ·have p:=d.num;have o:=b.num;simp only[ll.cons,aM];omega
   ·simp only[ll.cons,cz,k,zB];rw[<-d.lay];exact b.lay
   simp only[ll.cons,cJ];have:=b.deep;omega
  rw[zi (by simpa using e)]at h;exact absurd h e
theorem Ft {M:Int}{t:Ty}:∀(c:List Ty) (m i n:Nat) (r:List UInt8),(∀j (h:j<c.length),t.at (i+j)=c[j])->(∀a∈c,∀n r,(a.rd M n r).e=0->TC M a n r (a.rd M n r))->(n:Int)<=M->m<=c.length->(om M c m n r).e=0->
 Vp M t i n r (om M c m n r)/\m<=(om M c m n r).xs.length/\(om M c m n r).xs.length<=c.length/\cJ (om M c m n r).xs<=dI c
 | [],m,i,n,r,_,_,hM,hm,_=>⟨⟨rfl,rfl,by simp[om,aM],hM,by simp[om,cz]⟩,by simpa[om]using hm,by simp[om],by simp[om,cJ]⟩
 |a::c,m,i,n,r,ha,hf,hM,hm,h=>by
  rw[om]at h⊢;by_cases hz:m=0/\r= []
  ·rw[zi hz];obtain⟨rfl,rfl⟩:=hz;exact⟨⟨rfl,rfl,by simp[aM],hM,by simp[cz]⟩,by simp,by simp,by simp[cJ]⟩
  rw[zh hz]at h⊢;by_cases k:(a.rd M n r).e=0
  ·rw[zh (by simp[k])]at h⊢;have d:=hf a (by simp) n r k;obtain⟨e,x,w,q⟩:=Ft c (m-1) (i+1) (a.rd M n r).n (a.rd M n r).q (fun j p=>by have:=ha (j+1) (by simpa using p);simpa[show i+(j+1)=i+1+j from by omega]using this) (fun b o=>hf b (by simp[o])) d.many (by simp at hm;omega) h;have l:=ha 0 (by simp);simp only[y8,yQ]at l;refine⟨⟨?_, ?_, ?_,e.many, ?_⟩,by simp only[ll.cons,zw];omega,by simp only[ll.cons,zw];omega, ?_⟩
   ·simp only[ll.cons,cV,l,d.dj,e.dj,Bool.and_self]
   ·simp only[ll.cons,dh,d.right,e.right,Bool.and_self]
   ·have u:=e.num;have s:=d.num;simp only[ll.cons,aM];omega
   ·simp only[ll.cons,cz,l,zB];rw[<-e.lay];exact d.lay
   simp only[ll.cons,cJ,dI];have:=d.deep;omega
  rw[zi (by simpa using k)]at h;exact absurd h k
theorem TD {z:Int}{l:List Ty}{e:Int}{b:ByteArray}{m:Nat}(d:(b.size:Int)<=z)(c:gB b.data.toList=false):oJ (.mk 1 z l e) b false m=true:=by
 show(!false&&decide ((b.size:Int)<=z)&& !gB b.data.toList)=true
 rw[c,zE d];rfl
theorem TE {z:Int}{l:List Ty}{c:Int}{b:ByteArray}{m:Nat}(d:(b.size:Int)=z):oJ (.mk 2 z l c) b false m=true:=by
 show(!false&&decide ((b.size:Int)=z))=true
 rw[zE d];rfl
theorem Mz {z:Int}{l:List Ty}{c:Int}{b:ByteArray}{m:Nat}(d:(b.size:Int)<=z):oJ (.mk 3 z l c) b false m=true:=by
 show(!false&&decide ((b.size:Int)<=z))=true
 rw[zE d];rfl
theorem Pn {z:Int}{l:List Ty}{b:Int}{d:ByteArray}{m:Nat}(c:(m:Int)<=z):oJ (.mk 4 z l b) d true m=true:=by
 show(true&&decide ((m:Int)<=z))=true
 rw[zE c];rfl
theorem Po {z:Int}{l:List Ty}{b:Int}{c:ByteArray}{m:Nat}(e:m<=l.length)(d:(l.length:Int)-b<=m):oJ (.mk 5 z l b) c true m=true:=by
 show(true&&decide (m<=l.length)&&decide ((l.length:Int)-b<=m))=true
 rw[zE e,zE d];rfl
theorem Iy (n:Nat):gB (cH n)=false:=by
 by_cases h:n=0
 ·subst h;rw[dq];rfl
 cases hl:cH n with
 |nil=>rfl
 |cons b t=>
  have h1:=B7 n h;rw[hl]at h1;show(b==0)=false
  exact zm.2 (by simpa using h1)
theorem MA (M:Int)(I:M<=1024)(t:Ty):∀(n:Nat) (r:List UInt8),t.right=true->(t.rd M n r).e=0->TC M t n r (t.rd M n r):=by
 induction t using Ty.ind with
 |h k z l ta ih=>
  intro n r A h;obtain⟨H,y⟩:=jM A;by_cases d:M<=(n:Int)
  ·rw[KB d]at h;cases h
  rcases lT H with⟨rfl,J,m,u⟩|⟨rfl,q,p,m,u⟩|⟨rfl,q,p,m,u⟩|⟨rfl,q,p,m,u⟩|⟨rfl,q,p,N,K⟩
  ·rw[Iw d]at h⊢;by_cases c:r.length<z.toNat
   ·rw[zi c]at h;cases h
   rw[zh c];have x:=jL (r.take z.toNat);have i:(r.take z.toNat).length=z.toNat:=by rw[zU];omega
   rw[i]at x;have L:=iP z.toNat _ x;refine⟨?_,rfl,by simp[It.count,aM],by simp only;omega, ?_, ?_⟩
   ·simp only[It.dj,cV,Zf];exact TD (by rw[bB];omega) (by simpa using Iy _)
   ·rw[uk];simp only;have e:=O9 (r.take z.toNat);rw[i]at e;rw[Kv,e,zJ]
   simp[It.deep,cJ,Ty.deep]
  ·rw[Ix d]at h⊢;by_cases c:r.length<z.toNat
   ·rw[zi c]at h;cases h
   rw[zh c];have i:(r.take z.toNat).length=z.toNat:=by rw[zU];omega
   refine⟨?_,rfl,by simp[It.count,aM],by simp only;omega, ?_, ?_⟩
   ·simp only[It.dj,cV,Zf];exact TE (by rw[bB];omega)
   ·rw[uq];simp only;rw[zJ]
   simp[It.deep,cJ,Ty.deep]
  ·rw[vB d]at h⊢;by_cases b:(aw r).2.2≠0
   ·rw[zi b]at h;exact absurd h b
   rw[zh b]at h⊢;by_cases hz:z<((aw r).1:Int)
   ·rw[zi hz]at h;cases h
   rw[zh hz]at h⊢;by_cases c:(r.drop (aw r).2.1).length<(aw r).1
   ·rw[zi c]at h;cases h
   rw[zh c];obtain⟨F,E,s,B⟩:=iS r (aw r).1 (aw r).2.1 (by rw[<-zC.1 b]);generalize aw r=C at*;have i:((r.drop C.2.1).take C.1).length=C.1:=by rw[zU];omega
   refine⟨?_,rfl,by simp[It.count,aM],by simp only;omega, ?_, ?_⟩
   ·simp only[It.dj,cV,Zf];exact Mz (by rw[bB];omega)
   ·rw[oo];simp only;rw[show(⟨((r.drop C.2.1).take C.1).toArray⟩:ByteArray).size=C.1 from by rw[bB,i],<-s,zB,zJ,zJ]
   simp[It.deep,cJ,Ty.deep]
  ·rw[C8 d]at h⊢;by_cases b:(aw r).2.2≠0
   ·rw[zi b]at h;exact absurd h b
   rw[zh b]at h⊢;by_cases hz:z<((aw r).1:Int)
   ·rw[zi hz]at h;cases h
   rw[zh hz]at h⊢;obtain⟨F,E,s,B⟩:=iS r (aw r).1 (aw r).2.1 (by rw[<-zC.1 b]);generalize aw r=C at*;obtain⟨a,rfl⟩:=Yi.1 m;have o:∀j,(Ty.mk 4 z [a] ta).at j=a:=fun j=>by unfold Ty.at;simp
   have G:a.right=true:=by simpa[bM]using y
   simp only[rdF,ll.list]at h⊢;obtain⟨g1,g2,g3⟩:=Fs (M:=M) (a:=a) (t:= .mk 4 z [a] ta) (fun n r h=>ih a (by simp) n r G h) C.1 0 (n+1) (r.drop C.2.1) (fun j=>o _) (by omega) h;generalize tG (fun n r=>a.rd M n r) C.1 (n+1) (r.drop C.2.1)=R at*;refine⟨?_, ?_, ?_,g1.many, ?_, ?_⟩
   ·simp only[It.dj,g1.dj,Zf];exact Pn (by rw[g2];omega)
   ·simp[It.right,g1.right,formed,ByteArray.size]
   ·simp only[It.count,g1.num];omega
   ·rw[qt,zB,<-g1.lay,g2,<-s,zJ]
   simp only[It.deep,Ty.deep,dI];omega
  rw[ur d]at h⊢;have o:∀j (h:j<l.length),(Ty.mk 5 z l ta).at (0+j)=l[j]:=fun j h=>by unfold Ty.at;simp[h]
  simp only[ll.list]at h⊢;obtain⟨g1,g2,g3,g4⟩:=Ft (M:=M) (t:= .mk 5 z l ta) l ((l.length:Int)-ta).toNat 0 (n+1) r o (fun a w n r h=>by
   obtain⟨j,D,rfl⟩:=yW w;exact ih _ w n r (dQ y j D) h) (by omega) (by omega) h
  generalize om M l ((l.length:Int)-ta).toNat (n+1) r=R at*;refine⟨?_, ?_, ?_,g1.many, ?_, ?_⟩
  ·simp only[It.dj,g1.dj,Zf];exact Po g3 (by omega)
  ·simp[It.right,g1.right,formed,ByteArray.size]
  ·simp only[It.count,g1.num];omega
  ·rw[nD];exact g1.lay
  simp only[It.deep,Ty.deep];omega
