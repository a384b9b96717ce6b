/- The reader with its open lists, against the reader item within item: plain. -/
import Derived.Test.YtpjgigllldipiaaGreatDoorKA5
set_option linter.all false
namespace Go.Proofs.YtpjgigllldipiaaGreatDoor
def zz:=@decide_eq_false
def yM:=@List.getElem?_cons_succ
def xw:=@List.mem_of_getElem?
def xG:=@List.mem_singleton
def xR:=@List.getElem_append_left
def xY:=@MapKept.run_getObj_map
def Ze:=@run_underlying
def Zj:=@MapKept.run_checkKey
def Zn:=@List.mem_of_find?_eq_some
def Zp:=@MapKept.run_findKey
def ZJ:=@List.any_eq_true
def ZR:=@List.mem_append
def Yg:=@List.any_eq_false
def Yx:=@List.find?_some
def gH (xs:List It):It:= .mk ByteArray.empty true xs
def fin (D M:Int)(s:ByteArray):List It->Nat->List (List It×Nat)->Nat->Nat->Rd
 |acc,en,[],at_,count=>
  if(cN D M (s.extract at_ en) 2 count).e≠0 then Rd.bad (cN D M (s.extract at_ en) 2 count).e
  else⟨gH (acc++(cN D M (s.extract at_ en) 2 count).xs),en,count+(cN D M (s.extract at_ en) 2 count).items,0⟩
 |acc,en,f::rest,at_,count=>
  if(cN D M (s.extract at_ en) (rest.length+3) count).e≠0 then Rd.bad (cN D M (s.extract at_ en) (rest.length+3) count).e
  else fin D M s (f.1++ [gH (acc++(cN D M (s.extract at_ en) (rest.length+3) count).xs)]) f.2 rest en (count+(cN D M (s.extract at_ en) (rest.length+3) count).items)
def L6 (D M:Int)(s:ByteArray)(acc:List It)(en:Nat)(rest:List (List It×Nat))(count:Nat)(R:J6):Rd:=
 if R.e≠0 then Rd.bad R.e
 else match rest with
  | []=>⟨gH (acc++R.xs),en,count+R.items,0⟩
  |f::rest=>fin D M s (f.1++ [gH (acc++R.xs)]) f.2 rest en (count+R.items)
theorem uU (D M:Int)(s:ByteArray)(acc:List It)(b:Nat)(rest:List (List It×Nat))(at_ count:Nat):fin D M s acc b rest at_ count=L6 D M s acc b rest count (cN D M (s.extract at_ b) (rest.length+2) count):=by
 cases rest with
 |nil=>rw[fin];rfl
 |cons f rest=>rw[fin];rfl
theorem CE (s:ByteArray)(a b i j:Nat)(c:a+j<=b):(s.extract a b).extract i j=s.extract (a+i) (a+j):=by
 apply aG;rw[aj,aj,aj,List.take_drop,xV,xF,yK (by omega)]
theorem BD (D M:Int)(s:ByteArray)(acc:List It)(c:Nat)(rest:List (List It×Nat))(count k:Nat)(x:It)(R R':J6)(h:R=(if R'.e≠0 then J6.bad R'.e else⟨x::R'.xs,k+R'.items,0⟩)):
 L6 D M s acc c rest count R=L6 D M s (acc++ [x]) c rest (count+k) R':=by
 subst h;unfold L6;by_cases b:R'.e≠0
 ·rw[zl b,zl b,zl (by exact b)];rfl
 rw[zj b,zj b,zj (by simp)];cases rest with
 |nil=>simp[yv]
 |cons f rest=>simp[yv]
theorem L7 (D M:Int):∀(z:Nat) (s:ByteArray) (deep ahead:Nat),s.size<=z->(cN D M s deep ahead).e≠2:=by
 intro z;induction z with
 |zero=>intro s deep ahead h;rw[jl _ _ _ _ _ (by omega)];simp
 |succ z ih=>
  intro s deep ahead h;by_cases d:s.size=0
  ·rw[jl _ _ _ _ _ d];simp
  rw[gZ D M s deep ahead d _ rfl];have c:=mI D M (2*s.size+2) s deep ahead;change(bp D M s deep ahead).e=0->1<=(bp D M s deep ahead).size/\(bp D M s deep ahead).size<=s.size at c
  generalize bp D M s deep ahead=R at*;by_cases b:R.e≠0
  ·rw[zl b];show within R.e≠2
   unfold within;split<;>omega
  rw[zj b];have c:=c (zJ.1 b);have i:(s.extract R.size s.size).size=s.size-R.size:=an _ _ _ (zi _);have e:=ih (s.extract R.size s.size) deep (ahead+R.items) (by omega);split
  ·exact e
  simp
theorem SX (D M:Int)(s:ByteArray)(acc:List It)(b:Nat)(rest:List (List It×Nat))(at_ count:Nat)(i:at_<b)(h:b<=s.size)(H:Bool×Nat×Nat×Int)
 (e:hd (s.extract at_ b) (aE D (rest.length+2)) (aF M count)=H) (c:H.2.2.2≠0):fin D M s acc b rest at_ count=Rd.bad (within H.2.2.2):=by
 have hz:(s.extract at_ b).size=b-at_:=an _ _ _ h;have d:within H.2.2.2≠0:=by unfold within;split<;>simp_all
 rw[uU,gZ D M _ _ _ (by omega) _ rfl,dR D M _ _ _ H e,zl c,zl (show(Rd.bad H.2.2.2).e≠0 from c)];unfold L6;rw[zl (show(J6.bad (within (Rd.bad H.2.2.2).e)).e≠0 from d)];rfl
theorem OY (D M:Int)(s:ByteArray)(acc:List It)(b:Nat)(rest:List (List It×Nat))(at_ count:Nat)(k:at_<b)(j:b<=s.size)(H:Bool×Nat×Nat×Int)
 (d:hd (s.extract at_ b) (aE D (rest.length+2)) (aF M count)=H) (e:H.2.2.2=0) (i:H.1=false):
 fin D M s acc b rest at_ count=fin D M s (acc++ [.mk (s.extract (at_+H.2.1) (at_+H.2.1+H.2.2.1)) false []]) b rest (at_+H.2.1+H.2.2.1) (count+1)/\at_+H.2.1+H.2.2.1<=b:=by
 have hz:(s.extract at_ b).size=b-at_:=an _ _ _ j;have c:=sw (s.extract at_ b) (aE D (rest.length+2)) (aF M count);rw[d]at c;have c:=c e;refine⟨?_,by omega⟩;have h:bp D M (s.extract at_ b) (rest.length+2) count=⟨.mk ((s.extract at_ b).extract H.2.1 (H.2.1+H.2.2.1)) false [],H.2.1+H.2.2.1,1,0⟩:=by
  rw[dR D M _ _ _ H d,zj (show¬H.2.2.2≠0 by simp[e]),zl i]
 rw[uU,uU];refine BD D M s acc b rest count 1 _ _ _ ?_;rw[gZ D M _ _ _ (by omega) _ h];dsimp only;rw[zj (by simp),hz,CE s at_ b _ _ (by omega),CE s at_ b _ _ (by omega),show at_+(b-at_)=b from by omega,yv]
theorem OZ (D M:Int)(s:ByteArray)(acc:List It)(b:Nat)(rest:List (List It×Nat))(at_ count:Nat)(o:at_<b)(m:b<=s.size)(H:Bool×Nat×Nat×Int)
 (i:hd (s.extract at_ b) (aE D (rest.length+2)) (aF M count)=H) (j:H.2.2.2=0) (h:H.1=true):
 fin D M s acc b rest at_ count=fin D M s [] (at_+H.2.1+H.2.2.1) ((acc,b)::rest) (at_+H.2.1) (count+1)/\at_+H.2.1+H.2.2.1<=b/\1<=H.2.1:=by
 have hz:(s.extract at_ b).size=b-at_:=an _ _ _ m;have d:=sw (s.extract at_ b) (aE D (rest.length+2)) (aF M count);rw[i]at d;have d:=d j;refine⟨?_,by omega,d.2.2.2 h⟩;have e:=dR D M (s.extract at_ b) (rest.length+2) count H i;rw[zj (show¬H.2.2.2≠0 by simp[j]),zj (show¬H.1=false by simp[h]),CE s at_ b _ _ (by omega),<-yv,show rest.length+2+1=rest.length+3 from by omega]at e;rw[uU,gZ D M _ _ _ (by omega) _ e,fin];have l:=L7 D M (s.extract (at_+H.2.1) (at_+H.2.1+H.2.2.1)).size (s.extract (at_+H.2.1) (at_+H.2.1+H.2.2.1)) (rest.length+3) (count+1) (zi _);generalize cN D M (s.extract (at_+H.2.1) (at_+H.2.1+H.2.2.1)) (rest.length+3) (count+1)=R at*;by_cases c:R.e≠0
 ·have k:within R.e≠0:=by unfold within;split<;>simp_all
  have n:within R.e=R.e:=by unfold within;rw[zj l]
  rw[zl c,zl (show(Rd.bad R.e).e≠0 from c)];unfold L6;rw[zl (show(J6.bad (within (Rd.bad R.e).e)).e≠0 from k)];show Rd.bad (within R.e)=_
  rw[n,zl c]
 rw[zj c];dsimp only;rw[zj (by simp),uU,hz,CE s at_ b _ _ (by omega),show at_+(b-at_)=b from by omega,<-yv];refine(BD D M s acc b rest count (1+R.items) (gH R.xs) _ _ rfl).trans ?_;rw[zj c];simp[gH,yv]
theorem L8 (D M:Int)(s:ByteArray)(acc:List It)(b:Nat)(f:List It×Nat)(rest:List (List It×Nat))(count:Nat)(c:b<=s.size):fin D M s acc b (f::rest) b count=fin D M s (f.1++ [gH acc]) f.2 rest b count:=by
 rw[fin,jl _ _ _ _ _ (by rw[an _ _ _ c];omega)];simp
theorem O0 (D M:Int)(s:ByteArray)(acc:List It)(b:Nat)(count:Nat)(c:b<=s.size):fin D M s acc b [] b count=⟨gH acc,b,count,0⟩:=by
 rw[fin,jl _ _ _ _ _ (by rw[an _ _ _ c];omega)];simp
theorem rh (D M:Int)(s:ByteArray)(H:Bool×Nat×Nat×Int)(c:hd s (aE D 1) (aF M 0)=H):
 (H.2.2.2≠0->bp D M s 1 0=Rd.bad H.2.2.2)/\(H.2.2.2=0->H.1=false->bp D M s 1 0=⟨.mk (s.extract H.2.1 (H.2.1+H.2.2.1)) false [],H.2.1+H.2.2.1,1,0⟩)/\
 (H.2.2.2=0->H.1=true->bp D M s 1 0=fin D M s [] (H.2.1+H.2.2.1) [] H.2.1 1):=by
 refine⟨fun h=> ?_,fun h b=> ?_,fun h b=> ?_⟩
 ·rw[dR D M s 1 0 H c,zl h]
 ·rw[dR D M s 1 0 H c,zj (by simp[h]),zl b]
 rw[dR D M s 1 0 H c,zj (by simp[h]),zj (by simp[b]),fin];simp only[zQ];split
 ·rfl
 simp[gH]
theorem ee (b n:Nat):(cr b n).length=if n<=55 then 1 else 1+(cB n).length:=by unfold cr;split<;>simp;omega
theorem ER (s:ByteArray)(b n:Nat)(r:List UInt8)(x:b=128\/b=192)(c:s.data.toList=cr b n++r)(w:n<=r.length)(p:n<18446744073709551616)(q:b=128->n=1->128<=(r.getD 0 0).toNat):
 Af s=(decide (b=192),(cr b n).length,n,0):=by
 have hz:s.size=(cr b n).length+r.length:=by rw[<-aa,c,zo]
 rw[ee]at hz⊢;by_cases h:n<=55
 ·rw[zl h]at hz⊢;rw[cr,zl h]at c;have i:(s.data.toList.getD 0 0).toNat=b+n:=by rw[c,ZF,ZV,bh _ (by omega)]
  have d:s.data.toList.getD 1 0=r.getD 0 0:=by rw[c,ZF,List.getD_cons_succ]
  unfold Af;rw[i,d];dsimp only;have k:(if 192<=b+n then b+n-192 else b+n-128)=n:=by split<;>omega
  have j:decide (192<=b+n)=decide (b=192):=by rw[yY];simp;omega
  rw[zj (by omega),k,j];simp only[zl h];rw[zj (by omega),zj];rintro⟨m,a2,a3⟩;have a4:b=128:=by
   have:b≠192:=by simpa using m
   omega
  have:=q a4 a2;omega
 rw[zj h]at hz⊢;rw[cr,zj h]at c;have A:=gd 8 n (by simpa using p);have y:1<=(cB n).length:=by
  have:=J5 n (by omega);cases hl:cB n with
  |nil=>exact absurd hl this
  |cons a b=>simp
 have l:=BA n (by omega);have i:(s.data.toList.getD 0 0).toNat=b+55+(cB n).length:=by rw[c,ya,ZV,bh _ (by omega)]
 have d:s.data.toList.getD 1 0=(cB n).getD 0 0:=by
  rw[c,ya,List.getD_cons_succ,zA,xK (by omega),<-zA]
 have o:(s.extract 1 (1+(cB n).length)).data.toList=cB n:=by
  rw[aj,c,ya,ZB 1,zV,yh,zN,ye (zi _),Yl]
 have z:((cB n).getD 0 0).toNat≠0:=fun e=>l (zW.1 e)
 unfold Af;rw[i,d];dsimp only;have k:(if 192<=b+55+(cB n).length then b+55+(cB n).length-192 else b+55+(cB n).length-128)=55+(cB n).length:=by split<;>omega
 have j:decide (192<=b+55+(cB n).length)=decide (b=192):=by rw[yY];simp;omega
 rw[zj (by omega),k,j];have u:¬55+(cB n).length<=55:=by omega
 simp only[zj u,Nat.add_sub_cancel_left,o,J4];rw[zj (by omega),zj (by omega),zj (by omega)]
theorem Wd (s:ByteArray)(u:0<s.size)(H:Bool×Nat×Nat×Int)(B:Af s=H)(c:H.2.2.2=0):
 (H=(false,0,1,0)/\(s.data.toList.getD 0 0).toNat<128)\/
 (s.data.toList.take H.2.1=cr (if H.1=true then 192 else 128) H.2.2.1/\1<=H.2.1/\H.2.1=(cr (if H.1=true then 192 else 128) H.2.2.1).length/\¬(H.1=false/\H.2.2.1=1/\(s.data.toList.getD H.2.1 0).toNat<128)):=by
 subst B;have q:s.data.toList=s.data.toList.getD 0 0::s.data.toList.drop 1:=by
  have:=drop_cons s 0 u;rw[zN]at this;rw[this];simp
 unfold Af at c⊢;dsimp only at c⊢;have y:=(s.data.toList.getD 0 0).toNat_lt;have m:ub (((s.data.toList.getD 0 0).toNat:Nat):Int)=s.data.toList.getD 0 0:=by
  apply zW.1;rw[bh _ y]
 generalize D:(s.data.toList.getD 0 0).toNat=b at*;by_cases l:b<128
 ·rw[zl l];exact .inl ⟨rfl,l⟩
 rw[zj l]at c⊢;right;generalize r:(if 192<=b then b-192 else b-128)=d at*;have x:(if decide (192<=b)=true then 192 else 128)+d=b:=by
  rw[<-r];by_cases h:192<=b<;>simp[h];omega
 have C:d<=63:=by rw[<-r];split<;>omega
 by_cases j:d<=55
 ·simp only[zl j]at c⊢;by_cases i:s.size<1+d
  ·rw[zl i]at c;simp at c
  rw[zj i]at c⊢;split at c
  ·simp at c
  rename_i k
  rw[zj k];dsimp only;refine⟨?_,zi _, ?_,k⟩
  ·rw[q,zV,yE,cr,zl j,x,m]
  rw[ee,zl j]
 simp only[zj j]at c⊢;by_cases i:s.size<1+(d-55)
 ·rw[zl i]at c;simp at c
 rw[zj i]at c⊢;split at c
 ·simp at c
 rename_i k
 rw[zj k];split at c
 ·simp at c
 rename_i A
 rw[zj A];dsimp only;have z:(s.data.toList.getD 1 0).toNat≠0:=by omega
 have w:(s.extract 1 (1+(d-55))).data.toList=(s.data.toList.drop 1).take (d-55):=by rw[aj,List.take_drop]
 have p:((s.data.toList.drop 1).take (d-55)).length=d-55:=by rw[yc,zZ,aa];omega
 have o:cB (lk (s.extract 1 (1+(d-55))).data.toList)=(s.data.toList.drop 1).take (d-55):=by
  rw[w];refine EI _ ?_;rw[zA,yT (by omega),xH,<-zA];intro e;apply z;rw[show 1+0=1 from rfl]at e;rw[e];rfl
 generalize lk (s.extract 1 (1+(d-55))).data.toList=n at*;refine⟨?_,by omega, ?_, ?_⟩
 ·rw[cr,zj (by omega),o,p];rw[q,ZB 1 (d-55),zV,yh,zN];congr 1
  rw[<-m];congr 2;omega
 ·rw[ee,zj (by omega),o,p]
 omega
theorem UL (s:ByteArray)(d m:Bool)(h:(hd s d m).2.2.2=0):0<s.size/\d=false/\m=false/\hd s d m=Af s:=by
 unfold hd at h⊢;by_cases e:s.size=0
 ·rw[zl e]at h;simp at h
 rw[zj e]at h⊢;by_cases c:d=true
 ·rw[zl c]at h;simp at h
 rw[zj c]at h⊢;by_cases b:m=true
 ·rw[zl b]at h;simp at h
 rw[zj b];exact⟨by omega,by simpa using c,by simpa using b,rfl⟩
theorem uV {D:Int}{deep:Nat}:aE D deep=false↔(deep:Int)<=D/\deep<=16:=by simp[aE]
theorem oI {M:Int}{ahead:Nat}:aF M ahead=false↔(ahead:Int)+1<=M/\ahead+1<=1024:=by simp[aF]
structure abw (D M:Int)(x:It)(l:List UInt8)(deep ahead items:Nat):Prop where
 fJ:x.fJ=l
 right:x.right=true
 items:items=x.count
 deepD:(deep:Int)+x.deep<=D+1
 deep16:deep+x.deep<=17
 manyM:(ahead:Int)+x.count<=M
 many:ahead+x.count<=1024
structure UM (D M:Int)(xs:List It)(l:List UInt8)(deep ahead items:Nat):Prop where
 fJ:fp xs=l
 right:dg xs=true
 items:items=aH xs
 deepD:xs≠ []->(deep:Int)+cD xs<=D+1
 deep16:xs≠ []->deep+cD xs<=17
 manyM:xs≠ []->(ahead:Int)+aH xs<=M
 many:xs≠ []->ahead+aH xs<=1024
theorem O1 (x:It):1<=x.deep:=by cases x;simp[It.deep]
theorem SY (D M:Int):∀(z:Nat),(∀(s:ByteArray) (deep ahead:Nat),s.size<=z->(bp D M s deep ahead).e=0->abw D M (bp D M s deep ahead).x (s.data.toList.take (bp D M s deep ahead).size) deep ahead (bp D M s deep ahead).items)/\
 (∀(s:ByteArray) (deep ahead:Nat),s.size<=z->(cN D M s deep ahead).e=0->UM D M (cN D M s deep ahead).xs s.data.toList deep ahead (cN D M s deep ahead).items):=by
 have N:∀(s:ByteArray) (deep ahead:Nat),s.size=0->UM D M (cN D M s deep ahead).xs s.data.toList deep ahead (cN D M s deep ahead).items:=by
  intro s deep ahead h;rw[jl _ _ _ _ _ h];have:s.data.toList= []:=zt (by rw[aa];exact h);rw[this];exact⟨rfl,rfl,rfl,by simp,by simp,by simp,by simp⟩
 intro z;induction z with
 |zero=>
  refine⟨fun s deep ahead hz d=> ?_,fun s deep ahead hz _=>N s deep ahead (by omega)⟩;rw[dR D M s deep ahead _ rfl]at d;have:hd s (aE D deep) (aF M ahead)=(false,0,0,2):=by simp[hd,show s.size=0 by omega]
  rw[this]at d;simp[Rd.bad]at d
 |succ z ih=>
  obtain⟨ad,O⟩:=ih;have K:∀(s:ByteArray) (deep ahead:Nat),s.size<=z+1->(bp D M s deep ahead).e=0->abw D M (bp D M s deep ahead).x (s.data.toList.take (bp D M s deep ahead).size) deep ahead (bp D M s deep ahead).items:=by
   intro s deep ahead hz d;have c:=dR D M s deep ahead _ rfl;have o:=UL s (aE D deep) (aF M ahead);have n:=sw s (aE D deep) (aF M ahead);generalize hd s (aE D deep) (aF M ahead)=H at*;by_cases j:H.2.2.2≠0
   ·rw[zl j]at c;rw[c]at d;exact absurd d j
   have p:=zJ.1 j;obtain⟨Y,W,S,hH⟩:=o p;obtain⟨_,I,Xx,Z⟩:=n p;obtain⟨d1,d2⟩:=uV.1 W;obtain⟨m1,m2⟩:=oI.1 S;have his:=Wd s Y H hH.symm p;rw[zj j]at c;by_cases i:H.1=false
   ·rw[zl i]at c;rw[c];dsimp only;have k:(s.extract H.2.1 (H.2.1+H.2.2.1)).size=H.2.2.1:=by rw[an _ _ _ I];omega
    have m:s.data.toList.take H.2.1++(s.extract H.2.1 (H.2.1+H.2.2.1)).data.toList=s.data.toList.take (H.2.1+H.2.2.1):=by
     rw[aj];have:=zL H.2.1 (s.data.toList.take (H.2.1+H.2.2.1));rwa [xF,yK (by omega)]at this
    refine⟨?_,by simp[It.right,formed,dg],by simp[It.count,aH],by simp[It.deep,cD];omega,by simp[It.deep,cD];omega,by simp[It.count,aH];omega,by simp[It.count,aH];omega⟩;have B:(s.extract H.2.1 (H.2.1+H.2.2.1)).data.toList.getD 0 0=if H.2.2.1=0 then 0 else s.data.toList.getD H.2.1 0:=by
     rw[aj,zA,xH];split
     ·rename_i h;rw[xk (by rw[yc];omega)];rfl
     rw[yT (by omega),<-zA];rfl
    rcases his with⟨A,U⟩|⟨l,h4,G,J⟩
    ·rw[A]at k m B⊢;dsimp only at*;rw[It.fJ,zj (by simp),zl ⟨k,by rw[B];simpa using U⟩,<-m];simp
    rw[It.fJ,zj (by simp),zj (by rintro⟨a,b⟩;apply J;rw[k]at a;rw[B,zj (by omega)]at b;exact⟨i,a,b⟩),k,<-m,l,zj (by simp[i])]
   rw[zj i]at c;have L:H.1=true:=by simpa using i
   have k:(s.extract H.2.1 (H.2.1+H.2.2.1)).size=H.2.2.1:=by rw[an _ _ _ I];omega
   have ab:=Z L;have hS:=O (s.extract H.2.1 (H.2.1+H.2.2.1)) (deep+1) (ahead+1) (by omega);have m:s.data.toList.take H.2.1++(s.extract H.2.1 (H.2.1+H.2.2.1)).data.toList=s.data.toList.take (H.2.1+H.2.2.1):=by
    rw[aj];have:=zL H.2.1 (s.data.toList.take (H.2.1+H.2.2.1));rwa [xF,yK (by omega)]at this
   generalize cN D M (s.extract H.2.1 (H.2.1+H.2.2.1)) (deep+1) (ahead+1)=R at*;by_cases l:R.e≠0
   ·rw[zl l]at c;rw[c]at d;exact absurd d l
   rw[zj l]at c;rw[c];dsimp only;obtain⟨y,r,E,w,x,C,F⟩:=hS (zJ.1 l);have u:R.xs= []\/R.xs≠ []:=by cases R.xs<;>simp
   refine⟨?_,by simp[It.right,formed,r],by simp[It.count,E], ?_, ?_, ?_, ?_⟩
   ·rcases his with⟨A,_⟩|⟨G,J,h7,h8⟩
    ·rw[A]at i;simp at i
    rw[It.fJ,zl rfl,y,aa,k,<-m,G,zl L]
   all_goals
    rcases u with e|e
    ·rw[e];simp[It.deep,cD,It.count,aH];try omega
    first
    |(have:=w e;simp only[It.deep];omega)
    |(have:=x e;simp only[It.deep];omega)
    |(have:=C e;simp only[It.count];omega)
    |(have:=F e;simp only[It.count];omega)
  refine⟨K,fun s deep ahead hz d=> ?_⟩;by_cases o:s.size=0
  ·exact N s deep ahead o
  have c:=gZ D M s deep ahead o _ rfl;have q:=K s deep ahead hz;have n:=mI D M (2*s.size+2) s deep ahead;change(bp D M s deep ahead).e=0->1<=(bp D M s deep ahead).size/\(bp D M s deep ahead).size<=s.size at n
  generalize bp D M s deep ahead=R at*;by_cases j:R.e≠0
  ·rw[zl j]at c;rw[c]at d;have:within R.e≠0:=by unfold within;split<;>simp_all
   exact absurd d this
  have q:=q (zJ.1 j);have n:=n (zJ.1 j);rw[zj j]at c;have ae:(s.extract R.size s.size).size=s.size-R.size:=an _ _ _ (zi _);have hS:=O (s.extract R.size s.size) deep (ahead+R.items) (by omega);generalize cN D M (s.extract R.size s.size) deep (ahead+R.items)=T at*;by_cases i:T.e≠0
  ·rw[zl i]at c;rw[c]at d;exact absurd d i
  rw[zj i]at c;rw[c];dsimp only;obtain⟨X,a2,a3,a4,a5,a6,a7⟩:=q;obtain⟨y,r,E,w,x,C,F⟩:=hS (zJ.1 i);have u:T.xs= []\/T.xs≠ []:=by cases T.xs<;>simp
  refine⟨?_,by simp[dg,a2,r],by simp[aH,a3,E],fun _=> ?_,fun _=> ?_,fun _=> ?_,fun _=> ?_⟩
  ·rw[fp,X,y,aj,cM,zL]
  all_goals
   rcases u with e|e
   ·rw[e];simp only[cD,aH];omega
   have:=w e;have:=x e;have:=C e;have:=F e;simp only[cD,aH];omega
theorem We (D M:Int)(x:It):∀(s:ByteArray) (more:List UInt8) (deep ahead:Nat),s.data.toList=x.fJ++more->s.size<18446744073709551616->x.right=true->(deep:Int)+x.deep<=D+1->deep+x.deep<=17->(ahead:Int)+x.count<=M->ahead+x.count<=1024->
 bp D M s deep ahead=⟨.mk (if x.list=true then ByteArray.empty else x.text) x.list x.sub,x.fJ.length,x.count,0⟩:=by
 induction x using It.ind with
 |h t l xs ih=>
  intro s more deep ahead c aD k B U C J;have hz:s.size=(It.mk t l xs).fJ.length+more.length:=by rw[<-aa,c,zo]
  have Z:=O1 (.mk t l xs);have Y:=Bj (.mk t l xs);have m:0<s.size->hd s (aE D deep) (aF M ahead)=Af s:=by
   intro h;unfold hd;rw[zj (by omega),uV.2 (by omega),oI.2 (by omega)];simp
  cases l with
  |false=>
   have G:xs= []:=by
    simp only[It.right,formed,zF]at k;exact zt (by simpa using k.1)
   subst G;rw[It.fJ,zj (by simp)]at c hz⊢;by_cases i:t.size=1/\(t.data.toList.getD 0 0).toNat<128
   ·rw[zl i]at c hz⊢;rw[aa]at hz;have w:s.data.toList.getD 0 0=t.data.toList.getD 0 0:=by
     rw[c,zA,xK (by rw[aa];omega),<-zA]
    have j:hd s (aE D deep) (aF M ahead)=(false,0,1,0):=by
     rw[m (by omega)];unfold Af;rw[w];dsimp only;rw[zl i.2]
    rw[dR D M s deep ahead _ j];simp only[It.tE,It.tD,It.gA,It.count,aH];have:s.extract 0 (0+1)=t:=by
     apply aG;rw[aj,c,zN,ye (by rw[aa];omega),zC (by rw[aa];omega)]
    simp[this,i.1]
   rw[zj i]at c hz⊢;rw[zI]at c;have j:hd s (aE D deep) (aF M ahead)=(decide (128=192),(cr 128 t.size).length,t.size,0):=by
    rw[zo,aa]at hz;have H:1<=(cr 128 t.size).length:=by rw[ee];split<;>omega
    rw[m (by omega)];refine ER s 128 t.size _ (.inl rfl) c (by simp) (by omega) ?_;intro _ A;have:((t.data.toList++more).getD 0 0)=t.data.toList.getD 0 0:=by
     rw[zA,xK (by rw[aa];omega),<-zA]
    rw[this];exact Nat.le_of_not_lt fun h=>i ⟨A,h⟩
   rw[dR D M s deep ahead _ j];simp only[It.tE,It.tD,It.gA,It.count,aH];have:s.extract (cr 128 t.size).length ((cr 128 t.size).length+t.size)=t:=by
    apply aG;rw[aj,c,<-zI,ye (by rw[zo,aa];omega),zC (by rw[zo,aa];omega),List.drop_left]
   simp[this]
  |true=>
   rw[It.fJ,zl rfl]at c hz⊢;rw[zI]at c;rw[zo]at hz;have H:1<=(cr 192 (fp xs).length).length:=by rw[ee];split<;>omega
   have j:hd s (aE D deep) (aF M ahead)=(decide (192=192),(cr 192 (fp xs).length).length,(fp xs).length,0):=by
    rw[m (by omega)];exact ER s 192 (fp xs).length _ (.inr rfl) c (by simp) (by omega) (by omega)
   have n:(s.extract (cr 192 (fp xs).length).length ((cr 192 (fp xs).length).length+(fp xs).length)).data.toList=fp xs:=by
    rw[aj,c,<-zI,ye (by rw[zo];omega),zC (by rw[zo];omega),List.drop_left]
   rw[dR D M s deep ahead _ j];simp only[It.tE,It.tD,It.gA];rw[zj (by simp),zj (by simp)];simp only[It.right,zF]at k;have q:=k.2;have I:(deep:Int)+1+cD xs<=D+1:=by simp only[It.deep]at B;omega
   have F:deep+1+cD xs<=17:=by simp only[It.deep]at U;omega
   have ab:(ahead:Int)+1+aH xs<=M:=by simp only[It.count]at C;omega
   have ad:ahead+1+aH xs<=1024:=by simp only[It.count]at J;omega
   have R:∀(b:List It),(∀y∈b,y∈xs)->∀(u:ByteArray) (a:Nat),u.data.toList=fp b->u.size<18446744073709551616->dg b=true->(deep:Int)+1+cD b<=D+1->deep+1+cD b<=17->(a:Int)+aH b<=M->a+aH b<=1024->dg b=true->
    cN D M u (deep+1) a=⟨b,aH b,0⟩:=by
    intro b;induction b with
    |nil=>
     intro _ u a hu _ _ _ _ _ _ _;rw[jl _ _ _ _ _ (by rw[<-aa,hu];rfl)];rfl
    |cons y b ihy=>
     intro o u a hu N d K r E S _;simp only[dg,zF]at d;simp only[cD]at K r;simp only[aH]at E S;rw[fp]at hu;have p:=ih y (o y (by simp)) u (fp b) (deep+1) a hu N d.1 (by omega) (by omega) (by omega) (by omega);have W:(It.mk (if y.list=true then ByteArray.empty else y.text) y.list y.sub)=y:=by
      cases y with
      |mk t' l' s'=>
       simp only[It.tD,It.tE,It.gA];cases l' with
       |false=>simp
       |true=>
        have O:t'.size=0:=by
         have:=d.1;simp only[It.right,formed,zF]at this;simpa using this.1
        have:t'=ByteArray.empty:=aG (by rw[zt (show t'.data.toList.length=0 by rw[aa];exact O)];rfl);rw[this];simp
     have e:=mI D M (2*u.size+2) u (deep+1) a;change(bp D M u (deep+1) a).e=0->1<=(bp D M u (deep+1) a).size/\(bp D M u (deep+1) a).size<=u.size at e
     rw[p]at e;have e:=e rfl;dsimp only at e;rw[gZ D M u (deep+1) a (by omega) _ p];dsimp only;rw[zj (by simp)];have L:(u.extract y.fJ.length u.size).data.toList=fp b:=by rw[aj,cM,hu,List.drop_left]
     have X:=ihy (fun z hz=>o z (by simp[hz])) (u.extract y.fJ.length u.size) (a+y.count) L (by rw[an _ _ _ (zi _)];omega) d.2 (by omega) (by omega) (by omega) (by omega) d.2;rw[X];dsimp only;rw[zj (by simp),W,aH]
   rw[R xs (fun _ h=>h) _ _ n (by rw[<-aa,n];omega) q I F (by omega) (by omega) q];dsimp only;rw[zj (by simp),zo,It.count];simp
theorem SZ (D M:Int)(x:It)(s:ByteArray)(more:List UInt8)(deep ahead:Nat)(d:s.data.toList=x.fJ++more)(e:s.size<18446744073709551616)(b:x.right=true)(i:(deep:Int)+x.deep<=D+1)(j:deep+x.deep<=17)(k:(ahead:Int)+x.count<=M)(h:ahead+x.count<=1024):
 bp D M s deep ahead=⟨x,x.fJ.length,x.count,0⟩:=by
 rw[We D M x s more deep ahead d e b i j k h];cases x with
 |mk t l xs=>
  cases l with
  |false=>rfl
  |true=>
   have c:t.size=0:=by
    simp only[It.right,formed,zF]at b;simpa using b.1
   have:t=ByteArray.empty:=aG (by rw[zt (show t.data.toList.length=0 by rw[aa];exact c)];rfl);subst this;rfl
theorem ES (b n:Nat)(h:n<18446744073709551616):(cr b n).length<=9:=by
 rw[ee];have:=gd 8 n (by simpa using h);split<;>omega
theorem Ib (s:List It)(b:∀x∈s,x.total+9*x.count<1099511627776->x.fJ.length<=x.total+9*x.count):lx s+9*aH s<1099511627776->(fp s).length<=lx s+9*aH s:=by
 induction s with
 |nil=>simp[fp]
 |cons x xs F9=>
  intro h;simp only[lx,aH]at h;have e:=b x (by simp) (by omega);have d:=F9 (fun y c=>b y (by simp[c])) (by omega);simp only[fp,lx,aH,zo];omega
theorem L9 (x:It):x.total+9*x.count<1099511627776->x.fJ.length<=x.total+9*x.count:=by
 induction x using It.ind with
 |h t l s ih=>
  intro h;simp only[It.total,It.count]at h;have c:=Ib s ih (by omega);rw[It.fJ];simp only[It.total,It.count];by_cases b:l=true
  ·rw[zl b,zo];have:=ES 192 (fp s).length (by omega);omega
  rw[zj b];split
  ·have:t.data.toList.length=t.size:=aa t;omega
  rw[zo];have:=ES 128 t.size (by omega);have:t.data.toList.length=t.size:=aa t;omega
theorem Ma (x:It)(h:x.pB=false):x.fJ.length<=20000:=by
 have d:=rZ x h;have b:=Hp x;simp only[It.pB,ZO,xa]at h;have c:=L9 x (by omega);omega
def lA (D M:Int)(s:ByteArray):Int:=if(bp D M s 1 0).e≠0 then(bp D M s 1 0).e else if(bp D M s 1 0).size<s.size then 3 else 0
def iN (D M:Int)(s:ByteArray):It:=if lA D M s≠0 then i' else(bp D M s 1 0).x
theorem BE (x:It):x.may=true↔x.right=true/\x.deep<=16/\x.count<=1024:=by
 simp only[It.may,zF,yk,and_assoc]
theorem oJ (x:It)(D M:Int):fI x D M=0↔x.may=true/\(x.deep:Int)<=D/\(x.count:Int)<=M:=by
 unfold fI;cases x.may<;>simp
 split
 ·simp;omega
 split
 ·simp;omega
 simp;omega
theorem O2 (D M:Int)(x:It)(h:fI x D M=0)(s:ByteArray)(c:s.data.toList=x.fJ)(hz:s.size<18446744073709551616):lA D M s=0/\iN D M s=x:=by
 rw[oJ,BE]at h;obtain⟨⟨e,j,m⟩,i,k⟩:=h;have b:=SZ D M x s [] 1 0 (by simpa using c) hz e (by omega) (by omega) (by omega) (by omega);have l:s.size=x.fJ.length:=by rw[<-c,aa]
 have d:lA D M s=0:=by
  unfold lA;rw[b];simp;omega
 refine⟨d, ?_⟩;unfold iN;rw[zj (by simp[d]),b]
theorem O3 (D M:Int)(s:ByteArray)(h:lA D M s=0):fI (iN D M s) D M=0/\(iN D M s).fJ=s.data.toList:=by
 have hx:iN D M s=(bp D M s 1 0).x:=by unfold iN;rw[zj (by simp[h])]
 rw[hx];unfold lA at h;have b:=(SY D M s.size).1 s 1 0 (zi _);generalize bp D M s 1 0=R at*;by_cases c:R.e≠0
 ·rw[zl c]at h;exact absurd h c
 rw[zj c]at h;have b:=b (zJ.1 c);have d:¬R.size<s.size:=by intro d;rw[zl d]at h;simp at h
 have i:s.data.toList.length=s.size:=aa s;refine⟨?_, ?_⟩
 ·rw[oJ,BE];have e:=b.deepD;have j:=b.deep16;have a3:=b.manyM;have a4:=b.many;exact⟨⟨b.right,by omega,by omega⟩,by omega,by omega⟩
 rw[b.fJ,zC (by omega)]
theorem BF (ty:Ty)(x:It):eI ty x=0↔ty.may=true/\x.may=true/\x.dj ty=true:=by
 unfold eI;cases ty.may<;>cases x.may<;>cases x.dj ty<;>simp
def gI (ty:Ty)(x:It)(D M:Int):Int:=if eI ty x≠0 then eI ty x else fI x D M
def j5 (ty:Ty)(s:ByteArray)(D M:Int):Int:=if ty.may=false then 1 else if lA D M s≠0 then lA D M s else eI ty (iN D M s)
def pQ (ty:Ty)(s:ByteArray)(D M:Int):It:=if j5 ty s D M≠0 then i' else iN D M s
theorem lB (ty:Ty)(x:It)(D M:Int):gI ty x D M=0↔eI ty x=0/\fI x D M=0:=by
 unfold gI;split<;>simp_all
theorem oK (ty:Ty)(s:ByteArray)(D M:Int):j5 ty s D M=0↔ty.may=true/\lA D M s=0/\eI ty (iN D M s)=0:=by
 unfold j5;cases ty.may
 ·simp
 simp only[Bool.true_eq_false,Zq,true_and];split<;>simp_all
theorem CF (ty:Ty)(x:It)(D M:Int)(h:gI ty x D M=0)(s:ByteArray)(b:s.data.toList=x.fJ)(hz:s.size<18446744073709551616):j5 ty s D M=0/\iN D M s=x:=by
 rw[lB]at h;obtain⟨d,c⟩:=O2 D M x h.2 s b hz;rw[oK,c];exact⟨⟨((BF ty x).1 h.1).1,d,h.1⟩,rfl⟩
theorem CG (ty:Ty)(s:ByteArray)(D M:Int)(h:j5 ty s D M=0):gI ty (iN D M s) D M=0/\(iN D M s).fJ=s.data.toList:=by
 rw[oK]at h;obtain⟨c,b⟩:=O3 D M s h.2.1;rw[lB];exact⟨⟨h.2.2,c⟩,b⟩
structure bF where
 id:Nat
 name:ByteArray
 ty:ByteArray
def bF.shape (e:bF):Ty:=(cI e.ty.data.toList).getD (.mk 0 0 [] 0)
def gw (c:aS)(seen:List bF)(e:bF):Int:=
 if bY e.name=false then 11 else if(seen.any fun x=>decide (x.name=e.name))=true then 11 else if(seen.any fun x=>decide (x.id=e.id))=true then 1
 else if cI e.ty.data.toList=none then 3 else if c.fm=1/\e.shape.flat=false then 12 else 0
def iV (c:aS):List bF->List bF->Int
 |_,[]=>0
 |seen,e::r=>if gw c seen e≠0 then gw c seen e else iV c (seen++ [e]) r
def oL (c:aS)(l:List bF):Int:=if c.right=false then 1 else if 32<l.length then 4 else iV c [] l
def fB (l:List bF)(nm:ByteArray):Option bF:=l.find? fun e=>decide (e.name=nm)
def lZ (c:aS)(f:Fr)(e:bF):Bool:=(decide (c.fm=1)&&decide (f.nm=e.name)&&decide (f.id=0))||(decide (c.fm≠1)&&decide (f.id=e.id)&&decide (f.nm.size=0))
def fN (c:aS)(l:List bF)(f:Fr):Option bF:=l.find? (lZ c f)
def bQ (c:aS)(t:Ty)(x:It):ByteArray×Int:=if c.fm=1 then mL t x c.it else(if gI t x c.de c.it=0 then⟨x.fJ.toArray⟩else⟨#[]⟩,gI t x c.de c.it)
def dw (c:aS)(t:Ty)(s:ByteArray):Int×It:=if c.fm=1 then jw t s c.it else(j5 t s c.de c.it,pQ t s c.de c.it)
def bz (c:aS)(l:List bF)(nm:ByteArray)(x:It):Fr×Int:=match fB l nm with
 |none=>(mw,11)
 |some e=>if(bQ c e.shape x).2≠0 then(mw,(bQ c e.shape x).2)else if c.fm=1 then(⟨0,e.name,(bQ c e.shape x).1⟩,0)else(⟨e.id,ByteArray.empty,(bQ c e.shape x).1⟩,0)
structure Ms where
 name:ByteArray
 x:It
def ri :Ms:=⟨ByteArray.empty,i'⟩
def eM (c:aS)(l:List bF)(f:Fr):Int×Ms:=match fN c l f with
 |none=>(11,ri)
 |some e=>if(dw c e.shape f.body).1=0 then(0,⟨e.name,(dw c e.shape f.body).2⟩)else if(dw c e.shape f.body).1=2 then(3,ri)else((dw c e.shape f.body).1,ri)
structure cK (c:aS)(l:List bF):Prop where
 may:∀e∈l,bY e.name=true
 ty:∀e∈l,cI e.ty.data.toList=some e.shape
 flat:c.fm=1->∀e∈l,e.shape.flat=true
 names:∀i j (hi:i<l.length) (hj:j<l.length),l[i].name=l[j].name->i=j
 ids:∀i j (hi:i<l.length) (hj:j<l.length),l[i].id=l[j].id->i=j
theorem cK.nil (c:aS):cK c []:=⟨by simp,by simp,by simp,by simp,by simp⟩
theorem BG {c:aS}{seen:List bF}{e:bF}(h:gw c seen e=0):bY e.name=true/\(∀x∈seen,x.name≠e.name)/\(∀x∈seen,x.id≠e.id)/\cI e.ty.data.toList=some e.shape/\(c.fm=1->e.shape.flat=true):=by
 unfold gw at h;by_cases i:bY e.name=false
 ·rw[zl i]at h;cases h
 rw[zj i]at h;by_cases d:(seen.any fun x=>decide (x.name=e.name))=true
 ·rw[zl d]at h;cases h
 rw[zj d]at h;by_cases k:(seen.any fun x=>decide (x.id=e.id))=true
 ·rw[zl k]at h;cases h
 rw[zj k]at h;by_cases b:cI e.ty.data.toList=none
 ·rw[zl b]at h;cases h
 rw[zj b]at h;by_cases l:c.fm=1/\e.shape.flat=false
 ·rw[zl l]at h;cases h
 refine⟨by simpa using i,fun x hx j=>d (ZJ.2 ⟨x,hx,zH j⟩),fun x hx j=>k (ZJ.2 ⟨x,hx,zH j⟩), ?_,fun n=> ?_⟩
 ·obtain⟨t,m⟩:=Option.ne_none_iff_exists'.1 b;unfold bF.shape;rw[m];rfl
 cases hf:e.shape.flat with
 |true=>rfl
 |false=>exact absurd ⟨n,hf⟩ l
theorem cK.snoc {c:aS}{l:List bF}{e:bF}(h:cK c l)(y:gw c l e=0):cK c (l++ [e]):=by
 obtain⟨s,r,z,q,w⟩:=BG y;have key:∀{n:Type} (f:bF->n),(∀x∈l,f x≠f e)->(∀i j (hi:i<l.length) (m:j<l.length),f l[i]=f l[j]->i=j)->∀i j (hi:i<(l++ [e]).length) (m:j<(l++ [e]).length),f (l++ [e])[i]=f (l++ [e])[j]->i=j:=by
  intro n f o u i j hi m b;simp only[zo,yF]at hi m;by_cases k:i<l.length
  ·rw[xR k]at b;by_cases d:j<l.length
   ·rw[xR d]at b;exact u i j k d b
   obtain rfl:j=l.length:=by omega
   rw[List.getElem_concat_length rfl]at b;exact absurd b (o _ (zM k))
  obtain rfl:i=l.length:=by omega
  rw[List.getElem_concat_length rfl]at b;by_cases d:j<l.length
  ·rw[xR d]at b;exact absurd b.symm (o _ (zM d))
  omega
 refine⟨fun x hx=> ?_,fun x hx=> ?_,fun p x hx=> ?_,key (·.name) r h.names,key (·.id) z h.ids⟩
 ·rcases ZR.1 hx with hx|hx
  ·exact h.may x hx
  obtain rfl:=xG.1 hx;exact s
 ·rcases ZR.1 hx with hx|hx
  ·exact h.ty x hx
  obtain rfl:=xG.1 hx;exact q
 rcases ZR.1 hx with hx|hx
 ·exact h.flat p x hx
 obtain rfl:=xG.1 hx;exact w p
theorem ET {c:aS}:∀(r seen:List bF),cK c seen->iV c seen r=0->cK c (seen++r)
 | [],seen,h,_=>by simpa using h
 |e::r,seen,h,hz=>by
  rw[iV]at hz;by_cases he:gw c seen e=0
  ·rw[zj (by simp[he])]at hz;have:=ET r (seen++ [e]) (h.snoc he) hz;rwa [zI,ZF]at this
  rw[zl he]at hz;exact absurd hz he
theorem O4 {c:aS}{l:List bF}(h:oL c l=0):c.right=true/\l.length<=32/\cK c l:=by
 unfold oL at h;cases hr:c.right with
 |false=>rw[zl hr]at h;cases h
 |true=>
  rw[zj (by simp[hr])]at h;by_cases b:32<l.length
  ·rw[zl b]at h;cases h
  rw[zj b]at h;exact⟨rfl,by omega,by simpa using ET l [] (cK.nil c) h⟩
open Go.RowKit
def mE :List (Value×Value)->Nat->List MapEntry
 | [],_=> []
 |x::xs,b=>⟨x.1,x.2,b⟩::mE xs (b+1)
theorem BH :∀(l m:List (Value×Value)) (b:Nat),mE (l++m) b=mE l b++mE m (b+l.length)
 | [],m,b=>by simp[mE]
 |x::xs,m,b=>by simp only[ya,mE,BH xs m,zB];rw[show b+1+xs.length=b+(xs.length+1)from by omega]
theorem Ka :∀(l:List (Value×Value)) (b j:Nat),(mE l b)[j]?=(l[j]?).map fun x=>⟨x.1,x.2,b+j⟩
 | [],b,j=>by simp[mE]
 |x::xs,b,0=>by simp[mE]
 |x::xs,b,j+1=>by simp only[mE,yM,Ka xs];rw[show b+1+j=b+(j+1)from by omega]
theorem Wf {l:List (Value×Value)}{b:Nat}{e:MapEntry}(h:e∈mE l b):∃x∈l,e.key=x.1/\e.val=x.2:=by
 obtain⟨j,c⟩:=List.getElem?_of_mem h;rw[Ka]at c;cases hl:l[j]? with
 |none=>rw[hl]at c;cases c
 |some x=>
  rw[hl]at c;injection c with c;subst c;exact⟨x,xw hl,rfl,rfl⟩
theorem Kb {d:TypeDesc}{k:Value}(p:MapKept.IsKey d k)(l:List (Value×Value))(n:∀x∈l,MapKept.IsKey d x.1):
 (Instr.findNow d k (mE l 0) 0=some none/\∀x∈l,x.1≠k)\/∃j x,Instr.findNow d k (mE l 0) 0=some (some (j,x.2))/\l[j]?=some x/\x.1=k:=by
 rcases MapKept.findNow_spec p (mE l 0) 0 (fun e o=>by obtain⟨x,hx,c,_⟩:=Wf o;rw[c];exact n x hx)with⟨c,b⟩|⟨j,e,c,b,h⟩
 ·refine .inl ⟨c,fun x hx=> ?_⟩;obtain⟨j,m⟩:=List.getElem?_of_mem hx;have h:=b ⟨x.1,x.2,0+j⟩ (xw (i:=j) (by rw[Ka,m];rfl));exact h
 rw[Ka]at b;cases B7:l[j]? with
 |none=>rw[B7]at b;cases b
 |some x=>
  rw[B7]at b;injection b with b;subst b;exact .inr ⟨j,x,by rw[c,zQ],B7,h⟩
section
variable {P:Program} {w:World} {g c:Nat} {T K E:TypeId} {d:TypeDesc} {k:Value} {es:List MapEntry}
def ja (w:World)(g:Nat)(l:List (Value×Value)):Prop:=w.heap[g]?=some (.map (mE l 0).toArray l.length)
theorem ja.lt {l:List (Value×Value)}(h:ja w g l):g<w.heap.size:=y7 h
theorem EU {l:List (Value×Value)}(c:ja w g l)(e:P.underlying T=some (.map K E))(b:P.underlying K=some d)(i:MapKept.IsKey d k){j:Nat}{v:Value}(h:Instr.findNow d k (mE l 0) 0=some (some (j,v))):
 (Instr.lookup T (.map (some g)) k true).run P w= .ok (.tuple #[v,.bool true]) w:=by
 simp[Instr.lookup,Ze e,xY c,Zj b i,Zp b h,Result.andThen]
theorem Kc {l:List (Value×Value)}(c:ja w g l)(i:P.underlying T=some (.map K E))(b:P.underlying K=some d)(e:MapKept.IsKey d k)(h:Instr.findNow d k (mE l 0) 0=some none){z:Value}(hz:(zeroValue E).run P w= .ok z w):
 (Instr.lookup T (.map (some g)) k true).run P w= .ok (.tuple #[z,.bool false]) w:=by
 simp[Instr.lookup,Ze i,xY c,Zj b e,Zp b h,Result.andThen,hz]
def oa (w:World)(g:Nat)(l:List (Value×Value))(k v:Value):World:={w with heap:=w.heap.setIfInBounds g (.map (mE (l++ [(k,v)]) 0).toArray (l.length+1))}
theorem Kd {l:List (Value×Value)}(b:ja w g l)(j:P.underlying T=some (.map K E))(c:P.underlying K=some d)(i:MapKept.IsKey d k)(h:Instr.findNow d k (mE l 0) 0=some none)(v:Value):
 (Instr.mapUpdate T (.map (some g)) k v).run P w= .ok () (oa w g l k v):=by
 have e:(mE l 0).toArray.push ⟨k,v,l.length⟩=(mE (l++ [(k,v)]) 0).toArray:=by rw[BH];simp[mE]
 simp[Instr.mapUpdate,Ze j,xY b,Zj c i,Zp c h,Result.andThen,MapKept.run_setObj_map _ b];unfold oa;rw[<-e];simp
theorem sB {l:List (Value×Value)}(b:ja w g l)(k v:Value):ja (oa w g l k v) g (l++ [(k,v)]):=by
 unfold ja oa;simp only[zo,yF];exact(MapKept.heap_set b).1
theorem uW (w:World)(g:Nat)(l:List (Value×Value))(k v:Value):ae [g] w (oa w g l k v):=
 ⟨rfl,rfl,rfl,by simp[oa],fun j _ b=>by
  have c:g≠j:=fun e=>b (by simp[e])
  show(w.heap.setIfInBounds g _)[j]?=_
  simp[c]⟩
theorem ja.only {l:List (Value×Value)}{L:List Nat}{w':World}(h:ja w g l)(c:ae L w w')(b:g∉L):ja w' g l:=(c.block g h.lt b).trans h
theorem ja.below {l:List (Value×Value)}{B:Nat}{w':World}(h:ja w g l)(b:Below B w w')(c:g<B):ja w' g l:=(b.block g c).trans h
theorem ja.new (w:World):ja (w.alloc (.map #[] 0)) w.heap.size []:=yX w _
end
abbrev bV :=bF×Value
def Ag (l:List bV):List (Value×Value):=l.map fun r=>(.string r.1.name,r.2)
def Ah (l:List bV):List (Value×Value):=l.map fun r=>(.int .u64 r.1.id,r.2)
def aJ (l:List bV):List bF:=l.map (·.1)
theorem S2 (l:List bV):∀x∈Ag l,MapKept.IsKey .string x.1:=by
 intro x hx;obtain⟨r,_,rfl⟩:=xP.1 hx;simp[MapKept.IsKey]
theorem S3 (l:List bV):∀x∈Ah l,MapKept.IsKey (.int .u64) x.1:=by
 intro x hx;obtain⟨r,_,rfl⟩:=xP.1 hx;simp[MapKept.IsKey]
theorem jb {l:List bF}{p:bF->Bool}(h:∀e∈l,p e=false):l.find? p=none:=List.find?_eq_none.2 fun e b=>by simp[h e b]
theorem jc {l:List bF}{p:bF->Bool}{j:Nat}{e:bF}(b:l[j]?=some e)(c:p e=true)(hu:∀i (x:bF),l[i]?=some x->p x=true->i=j):l.find? p=some e:=by
 cases h:l.find? p with
 |none=>exact absurd c (List.find?_eq_none.1 h e (xw b))
 |some x=>
  have hx:=Yx h;obtain⟨i,hi⟩:=List.getElem?_of_mem (Zn h);have:=hu i x hi hx;subst this;rw[hi]at b;exact b
theorem BI {l:List bF}{i:Nat}{x:bF}(h:l[i]?=some x):∃hi:i<l.length,l[i]=x:=by
 obtain⟨hi,e⟩:=Zo.1 h;exact⟨hi,e⟩
theorem BJ {c:aS}{l:List bV}(h:cK c (aJ l))(nm:ByteArray):
 (Instr.findNow .string (.string nm) (mE (Ag l) 0) 0=some none/\fB (aJ l) nm=none)\/∃(j:Nat) (r:bV),Instr.findNow .string (.string nm) (mE (Ag l) 0) 0=some (some (j,r.2))/\l[j]?=some r/\r.1.name=nm/\fB (aJ l) nm=some r.1:=by
 rcases Kb (d:= .string) (k:= .string nm) (by simp[MapKept.IsKey]) (Ag l) (S2 l)with⟨n,b⟩|⟨j,x,n,b,z⟩
 ·refine .inl ⟨n,jb fun e y=>zz fun m=> ?_⟩;obtain⟨r,u,rfl⟩:=xP.1 y;exact b (.string r.1.name,r.2) (xP.2 ⟨r,u,rfl⟩) (by rw[m])
 unfold Ag at b;rw[Zb]at b;cases hl:l[j]? with
 |none=>rw[hl]at b;cases b
 |some r=>
  rw[hl]at b;injection b with b;subst b;have m:r.1.name=nm:=by injection z
  have o:(aJ l)[j]?=some r.1:=by unfold aJ;rw[Zb,hl];rfl
  refine .inr ⟨j,r,n,hl,m,jc o (zH m) fun i x hi hx=> ?_⟩;obtain⟨w,q⟩:=BI hi;obtain⟨p,s⟩:=BI o;exact h.names i j w p (by rw[q,s,m];exact yn hx)
theorem Ke {c:aS}{l:List bV}(h:cK c (aJ l))(id:Nat)(p:bF->Bool)(o:∀e,p e=decide (e.id=id)):
 (Instr.findNow (.int .u64) (.int .u64 id) (mE (Ah l) 0) 0=some none/\(aJ l).find? p=none)\/∃(j:Nat) (r:bV),Instr.findNow (.int .u64) (.int .u64 id) (mE (Ah l) 0) 0=some (some (j,r.2))/\l[j]?=some r/\r.1.id=id/\(aJ l).find? p=some r.1:=by
 rcases Kb (d:= .int .u64) (k:= .int .u64 id) (by simp[MapKept.IsKey]) (Ah l) (S3 l)with⟨n,b⟩|⟨j,x,n,b,s⟩
 ·refine .inl ⟨n,jb fun e B=>by
   rw[o];refine zz fun m=> ?_
   obtain⟨r,z,rfl⟩:=xP.1 B;exact b (.int .u64 r.1.id,r.2) (xP.2 ⟨r,z,rfl⟩) (by rw[m])⟩
 unfold Ah at b;rw[Zb]at b;cases hl:l[j]? with
 |none=>rw[hl]at b;cases b
 |some r=>
  rw[hl]at b;injection b with b;subst b;have m:r.1.id=id:=by injection s with _ s;omega
  have q:(aJ l)[j]?=some r.1:=by unfold aJ;rw[Zb,hl];rfl
  refine .inr ⟨j,r,n,hl,m,jc q (by rw[o];exact zH m) fun i x hi hx=> ?_⟩;obtain⟨A,w⟩:=BI hi;obtain⟨u,y⟩:=BI q;rw[o]at hx;exact h.ids i j A u (by rw[w,y,m];exact yn hx)
theorem CH {c:aS}(h:c.fm=1)(l:List bF)(f:Fr):fN c l f=if f.id=0 then fB l f.nm else none:=by
 unfold fN fB;by_cases b:f.id=0
 ·rw[zl b];congr 1
  funext e
  simp[lZ,h,b,eq_comm]
 rw[zj b];exact jb fun e _=>by simp[lZ,h,b]
theorem Ic {c:aS}(h:c.fm≠1)(l:List bF)(f:Fr)(b:f.nm.size≠0):fN c l f=none:=jb fun e _=>by simp[lZ,h,b]
theorem S4 {c:aS}(h:c.fm≠1)(f:Fr)(b:f.nm.size=0)(e:bF):lZ c f e=decide (e.id=f.id):=by simp[lZ,h,b,eq_comm]
theorem EV {l:List bF}{p:bF->Bool}(h:l.find? p=none):l.any p=false:=Yg.2 fun e b=>by simpa using List.find?_eq_none.1 h e b
theorem EW {l:List bF}{p:bF->Bool}{e:bF}(h:l.find? p=some e):l.any p=true:=ZJ.2 ⟨e,Zn h,Yx h⟩
theorem j6 {l:List bF}{nm:ByteArray}{e:bF}(h:fB l nm=some e):e∈l/\e.name=nm:=⟨Zn h,yn (Yx (p:=fun x:bF=>decide (x.name=nm)) h)⟩
theorem CI {c:aS}{l:List bF}{f:Fr}{e:bF}(h:fN c l f=some e):e∈l/\lZ c f e=true:=⟨Zn h,Yx h⟩
theorem Mb {c:aS}{l:List bF}(h:cK c l){e:bF}(m:e∈l):fB l e.name=some e:=by
 obtain⟨j,b,rfl⟩:=xg m;refine jc (zD b) (zH rfl) fun i x hi hx=> ?_
 obtain⟨k,d⟩:=BI hi;exact h.names i j k b (by rw[d];exact yn hx)
theorem uX {c:aS}{l:List bF}(h:cK c l){f:Fr}{e:bF}(q:e∈l)(b:lZ c f e=true):fN c l f=some e:=by
 obtain⟨j,m,rfl⟩:=xg q;refine jc (zD m) b fun i x hi hx=> ?_
 obtain⟨p,o⟩:=BI hi;by_cases d:c.fm=1
 ·have k:f.nm=x.name:=by simp[lZ,d]at hx;exact hx.1
  have n:f.nm=l[j].name:=by simp[lZ,d]at b;exact b.1
  exact h.names i j p m (by rw[o,<-k,n])
 have k:f.id=x.id:=by simp[lZ,d]at hx;exact hx.1
 have n:f.id=l[j].id:=by simp[lZ,d]at b;exact b.1
 exact h.ids i j p m (by rw[o,<-k,n])
theorem Ai {s:ByteArray}(h:s.size=0):s=ByteArray.empty:=aG (by
 have:s.data.toList.length=0:=by rw[aa];exact h
 rw[zt this];rfl)
theorem Mc {c:aS}(h:c.fm=1){f:Fr}{e:bF}(d:lZ c f e=true):f=⟨0,e.name,f.body⟩:=by
 obtain⟨i,n,b⟩:=f;simp[lZ,h]at d;obtain⟨rfl,rfl⟩:=d;rfl
theorem Ie {c:aS}(h:c.fm≠1){f:Fr}{e:bF}(j:lZ c f e=true):f=⟨e.id,ByteArray.empty,f.body⟩:=by
 obtain⟨i,n,b⟩:=f;simp[lZ,h]at j;obtain⟨rfl,d⟩:=j;rw[show n=ByteArray.empty from by first|exact d|exact Ai d]
theorem uY (x:It):(⟨x.fJ.toArray⟩:ByteArray).data.toList=x.fJ:=by simp
theorem oc {s:ByteArray}{l:List UInt8}(h:l=s.data.toList):(⟨l.toArray⟩:ByteArray)=s:=aG (by simp[h])
theorem rj {c:aS}(d:c.fm≠1){t:Ty}{x:It}(h:(bQ c t x).2=0)(hz:x.fJ.length<18446744073709551616):dw c t (bQ c t x).1=(0,x)/\(bQ c t x).1=⟨x.fJ.toArray⟩:=by
 unfold bQ at h⊢;rw[zj d]at h⊢;simp only at h⊢;rw[zl h];refine⟨?_,rfl⟩;obtain⟨b,a2⟩:=CF t x c.de c.it h ⟨x.fJ.toArray⟩ (uY x) (by rw[<-aa,uY];exact hz);unfold dw;rw[zj d,b];unfold pQ;rw[zj (by simp[b]),a2]
theorem Md {c:aS}{t:Ty}{s:ByteArray}(h:(dw c t s).1=0):bQ c t (dw c t s).2=(s,0):=by
 unfold dw at h⊢;by_cases d:c.fm=1
 ·rw[zl d]at h⊢;obtain⟨b,a2⟩:=Ia t s c.it h;unfold bQ;rw[zl d];unfold mL;rw[zl b,oc a2]
 rw[zj d]at h⊢;simp only at h⊢;obtain⟨b,a2⟩:=CG t s c.de c.it h;have e:pQ t s c.de c.it=iN c.de c.it s:=by unfold pQ;rw[zj (by simp[h])]
 rw[e];unfold bQ;rw[zj d,zl b,b,oc a2]
theorem mM {c:aS}{l:List bF}{nm:ByteArray}{x:It}(h:(bz c l nm x).2=0):∃e,fB l nm=some e/\(bQ c e.shape x).2=0/\(bz c l nm x).1=if c.fm=1 then⟨0,e.name,(bQ c e.shape x).1⟩else⟨e.id,ByteArray.empty,(bQ c e.shape x).1⟩:=by
 unfold bz at h⊢;cases hb:fB l nm with
 |none=>rw[hb]at h;cases h
 |some e=>
  rw[hb]at h;simp only at h⊢;by_cases b:(bQ c e.shape x).2≠0
  ·rw[zl b]at h;exact absurd h b
  rw[zj b]at h⊢;exact⟨e,rfl,zJ.1 b,by split<;>rfl⟩
theorem Ig {c:aS}{l:List bF}(i:cK c l)(b:c.fm≠1){nm:ByteArray}{x:It}(h:(bz c l nm x).2=0)(hz:x.fJ.length<18446744073709551616):eM c l (bz c l nm x).1=(0,⟨nm,x⟩):=by
 obtain⟨e,k,j,n⟩:=mM h;obtain⟨m,rfl⟩:=j6 k;obtain⟨d,_⟩:=rj b j hz;rw[n,zj b];unfold eM;rw[uX i m (by simp[lZ,b])];simp only[d,xS]
theorem uZ {c:aS}{l:List bF}(k:cK c l){f:Fr}(h:(eM c l f).1=0):bz c l (eM c l f).2.name (eM c l f).2.x=(f,0):=by
 unfold eM at h⊢;cases hb:fN c l f with
 |none=>rw[hb]at h;cases h
 |some e=>
  rw[hb]at h;simp only at h⊢;by_cases b:(dw c e.shape f.body).1=0
  ·rw[zl b]at h⊢;obtain⟨m,i⟩:=CI hb;have j:=Md b;simp only;unfold bz;rw[Mb k m];simp only[j];rw[zj (by simp)];by_cases d:c.fm=1
   ·rw[zl d,<-Mc d i]
   rw[zj d,<-Ie d i]
  rw[zj b]at h;split at h
  ·cases h
  exact absurd h b
theorem Me (c:aS)(l:List bF)(f:Fr):(eM c l f).1≠2:=by
 unfold eM;split
 ·simp
 split
 ·simp
 split
 ·simp
 assumption
theorem BK {c:aS}{l:List bF}{nm:ByteArray}{x:It}(h:(bz c l nm x).2≠0):(bz c l nm x).1=mw:=by
 unfold bz at h⊢;split
 ·rfl
 rename_i e d
 rw[d]at h;simp only at h⊢;by_cases b:(bQ c e.shape x).2≠0
 ·rw[zl b]
 rw[zj b]at h;split at h<;>exact absurd rfl h
theorem Kf {M:Int}{t:Ty}:∀(b:List Ty) (s:List It) (m i n:Nat),(∀j (h:j<b.length),t.at (i+j)=b[j])->m<=s.length->s.length<=b.length->
 (∀j (c:j<s.length) (k:j<b.length),∀(n:Nat) (q:List UInt8),(n:Int)+(s[j]).count<=M->(b[j]).rd M n ((s[j]).lay (b[j])++q)=⟨0,s[j],n+(s[j]).count,q⟩)->(n:Int)+aH s<=M->
 (nF M b m n (cn s t i)).e=0/\(nF M b m n (cn s t i)).q= []
 | [],s,m,i,n,_,_,hs,_,_=>by
  obtain rfl:s= []:=zt (by simpa using hs);simp[nF,cn]
 |a::b,[],m,i,n,_,hm,_,_,_=>by
  have l:m=0:=by simpa using hm
  subst l;simp[nF,cn]
 |a::b,x::xs,m,i,n,ha,hm,hs,hf,hM=>by
  simp only[aH]at hM;have d:=ha 0 (by simp);rw[xp]at d;have hx:=hf 0 (by simp) (by simp) n (cn xs t (i+1)) (by simp only[yZ];omega);simp only[yZ]at hx d;rw[cn,d,nF,hx];by_cases e:m=0/\x.lay a++cn xs t (i+1)= []
  ·rw[zl e];exact⟨rfl,e.2⟩
  rw[zj e];simp only[ne_eq,xe,Zq];exact Kf b xs (m-1) (i+1) (n+x.count) (fun j c=>by have:=ha (j+1) (by simpa using c);simpa[show i+(j+1)=i+1+j from by omega]using this) (by simp at hm;omega) (by simpa using hs)
   (fun j c k=>by have:=hf (j+1) (by simpa using c) (by simpa using k);simpa using this) (by omega)
theorem Wg (M:Int)(r:M<=1024)(x:It)(t:Ty)(n:Nat)(C:t.right=true)(c:bZ t.sub=true)(hi:x.dj t=true)(hx:x.right=true)(p:(n:Int)+x.count<=M):(t.rd M n (x.lay t)).e=0/\(t.rd M n (x.lay t)).q= []:=by
 by_cases e:t.kind=5
 ·obtain⟨S,b,s⟩:=x;obtain⟨k,z,l,d⟩:=t;simp only[Ty.JT]at e;subst e;obtain⟨R,J⟩:=ju C;obtain⟨U,G⟩:=mF hx;have H:=uS G;have D:¬M<=(n:Int):=by simp only[It.count]at p;omega
  simp only[It.dj,zF]at hi;obtain⟨m,E⟩:=hi;have A:=kS s _ 0 E;simp only[zQ]at A;simp only[Ty.gA]at c;replace m:=pO m;obtain⟨rfl,I,N⟩:=m;have w:∀j (h:j<l.length),(Ty.mk 5 z l d).at (0+j)=l[j]:=fun j h=>by unfold Ty.at;simp[h]
  simp only[It.count]at p;rw[mK,tK D];exact Kf (M:=M) (t:= .mk 5 z l d) l s ((l.length:Int)-d).toNat 0 (n+1) w (by omega) I (fun j y i n q F=>by
   have L:=zM y;have o:=A j y;have B:=w j i;rw[zQ]at B;rw[B]at o;have u:=EM c j i;have K:=dP J j i;generalize l[j]=a at*;obtain⟨W,O,al,at_⟩:=a;exact OU M r _ _ n q K (lz u).2 (mJ u o q) o (H _ L) F) (by omega)
 have:=OU M r x t n [] C c (fun h=>absurd h e) hi hx p;rw[xx]at this;rw[this];exact⟨rfl,rfl⟩
theorem Mf (t:Ty)(x:It)(M:Int)(h:iM t x M=0)(s:ByteArray)(i:s.data.toList=x.lay t):(jw t s M).1=0:=by
 obtain⟨c,d,q⟩:=BC h;obtain⟨_,m,_,_,k⟩:=jx c;obtain⟨_,l,j⟩:=rf d;obtain⟨n,p,o⟩:=sA l;have b:=Wg (min M 1024) (by omega) x t 0 m k j n (by omega);rw[<-i]at b;change(nS t s M).e=0/\(nS t s M).q= []at b
 have e:dk t s M=(0,(nS t s M).x,s.size):=by unfold dk;rw[zj (by simp[c]),zj (by simp[b.1]),b.2];simp
 unfold jw;rw[e];simp
def aR (c:aS)(l:List bF)(s:ByteArray):Int×Ms×Nat×Nat:=
 if(aW c s).1≠0 then((aW c s).1,ri,(aW c s).2.2.1,(aW c s).2.2.2)else((eM c l (aW c s).2.1).1,(eM c l (aW c s).2.1).2,(aW c s).2.2.1,(aW c s).2.2.2)
theorem Kg {c:aS}{l:List bF}{s:ByteArray}(h:(aW c s).1≠0):aR c l s=((aW c s).1,ri,(aW c s).2.2.1,(aW c s).2.2.2):=by unfold aR;rw[zl h]
theorem pR {c:aS}{l:List bF}{s:ByteArray}(h:(aW c s).1=0):aR c l s=((eM c l (aW c s).2.1).1,(eM c l (aW c s).2.1).2,(aW c s).2.2.1,(aW c s).2.2.2):=by unfold aR;rw[zj (by simp[h])]
theorem jy {c:aS}{l:List bF}{s:ByteArray}:(aR c l s).1=2↔(aW c s).1=2:=by
 by_cases h:(aW c s).1=0
 ·rw[pR h,h];exact⟨fun b=>absurd b (Me _ _ _),(by intro h;cases h)⟩
 rw[Kg h]
theorem BL {c:aS}{l:List bF}{s:ByteArray}(h:(aR c l s).1=0):(aW c s).1=0/\(eM c l (aW c s).2.1).1=0:=by
 by_cases b:(aW c s).1=0
 ·rw[pR b]at h;exact⟨b,h⟩
 rw[Kg b]at h;exact absurd h b
theorem lC (c:aS)(l:List bF)(s:ByteArray):(aR c l s).2.2=(aW c s).2.2:=by unfold aR;split<;>rfl
theorem dJ (c:aS)(l:List bF):mq (aR c l):=by
 have b:=uI c;refine⟨fun s h=> ?_,fun s t h=> ?_,fun s h=> ?_⟩
 ·have:=b.pos s (BL h).1;rw[lC];exact this
 ·have e:=b.ext s t (fun d=>h (jy.2 d));unfold aR;rw[e]
 rw[lC];exact b.short s (jy.1 h)
theorem BM {c:aS}(b:c.right=true)(l:List bF):(aR c l ByteArray.empty).1=2:=jy.2 (Hi b)
def cx (c:aS)(l:List bF)(nm:ByteArray)(x:It):ByteArray×Int:=if(bz c l nm x).2≠0 then(ByteArray.empty,(bz c l nm x).2)else fk c (bz c l nm x).1
theorem EX {c:aS}{l:List bF}{nm:ByteArray}{x:It}(h:(cx c l nm x).2=0):(bz c l nm x).2=0/\cx c l nm x=fk c (bz c l nm x).1:=by
 unfold cx at h⊢;by_cases b:(bz c l nm x).2≠0
 ·rw[zl b]at h;exact absurd h b
 rw[zj b];exact⟨zJ.1 b,rfl⟩
theorem EY {c:aS}{f:Fr}(h:(fk c f).2≠0):(fk c f).1=ByteArray.empty:=by
 unfold fk at h⊢;split
 ·split
  ·rfl
  split
  ·rfl
  rename_i e d b
  rw[zl e,zj d,zj b]at h;exact absurd rfl h
 rfl
theorem Mg {c:aS}{l:List bF}{nm:ByteArray}{x:It}(h:(cx c l nm x).2≠0):(cx c l nm x).1=ByteArray.empty:=by
 unfold cx at h⊢;by_cases b:(bz c l nm x).2≠0
 ·rw[zl b]
 rw[zj b]at h⊢;exact EY h
def Mh (l:List bF):Prop:=∀e∈l,e.id<18446744073709551616
theorem u9 {c:aS}{l:List bF}(hid:Mh l){nm:ByteArray}{x:It}(h:(bz c l nm x).2=0):(bz c l nm x).1.id<18446744073709551616:=by
 obtain⟨e,d,_,b⟩:=mM h;rw[b];split
 ·simp
 exact hid e (j6 d).1
theorem S5 {c:aS}{l:List bF}(j:cK c l){nm:ByteArray}{x:It}(h:(bz c l nm x).2=0)(hz:x.fJ.length<18446744073709551616):
 ∃y,eM c l (bz c l nm x).1=(0,⟨nm,y⟩)/\(c.fm≠1->y=x)/\bz c l nm y=((bz c l nm x).1,0):=by
 by_cases b:c.fm=1
 ·obtain⟨e,n,d,k⟩:=mM h;obtain⟨p,rfl⟩:=j6 n;rw[zl b]at k;have m:fN c l (bz c l e.name x).1=some e:=uX j p (by rw[k];simp[lZ,b]);have o:(dw c e.shape (bQ c e.shape x).1).1=0:=by
   unfold bQ at d⊢;rw[zl b]at d⊢;unfold dw;rw[zl b];unfold mL at d⊢;by_cases i:iM e.shape x c.it=0
   ·rw[zl i];exact Mf e.shape x c.it i _ (by simp)
   rw[zj i]at d;exact absurd d i
  have hd:eM c l (bz c l e.name x).1=(0,⟨e.name,(dw c e.shape (bQ c e.shape x).1).2⟩):=by
   unfold eM;rw[m];simp only[k,o,xS]
  refine⟨_,hd,fun h=>absurd b h, ?_⟩;have:=uZ j (f:=(bz c l e.name x).1) (by rw[hd]);rw[hd]at this;exact this
 have hd:=Ig j b h hz;refine⟨x,hd,fun _=>rfl,Z3 rfl h⟩
theorem S6 {c:aS}{l:List bF}(i:c.right=true)(n:cK c l)(hid:Mh l){nm:ByteArray}{x:It}(h:(cx c l nm x).2=0)(hz:x.fJ.length<18446744073709551616):
 ∃y k,(∀T,aR c l ((cx c l nm x).1++T)=(0,⟨nm,y⟩,(cx c l nm x).1.size,k))/\(c.fm≠1->y=x)/\cx c l nm y=cx c l nm x:=by
 obtain⟨m,d⟩:=EX h;obtain⟨y,hd,p,q⟩:=S5 n m hz;have r:fk c (bz c l nm x).1=((cx c l nm x).1,0):=by rw[<-d];exact Z3 rfl h
 have o:=fun T=>(OJ (u9 hid m) r T).1
 obtain⟨k,b⟩:=o ByteArray.empty;have j:∀T,aW c ((cx c l nm x).1++T)=(0,(bz c l nm x).1,(cx c l nm x).1.size,k):=fun T=>by
  have e:=(uI c).ext (cx c l nm x).1 T (by rw[bN i];rw[kN]at b;rw[b];simp);rw[e,bN i];rw[kN]at b;exact b
 refine⟨y,k,fun T=> ?_,p, ?_⟩
 ·rw[pR (by rw[j]),j,hd]
 rw[d];unfold cx;rw[q,zj (by simp)]
theorem EZ {c:aS}{l:List bF}(b:c.right=true)(i:cK c l)(hid:Mh l){nm:ByteArray}{x:It}(h:(cx c l nm x).2=0)(hz:x.fJ.length<18446744073709551616):
 ∃y k,(∀T,split (aR c l) ((cx c l nm x).1++T)=(split (aR c l) T).cons ⟨nm,y⟩ k)/\split (aR c l) (cx c l nm x).1=([⟨nm,y⟩],ByteArray.empty,k,0)/\(c.fm≠1->y=x)/\cx c l nm y=cx c l nm x:=by
 obtain⟨y,k,d,e,j⟩:=S6 b i hid h hz;have key:∀T,split (aR c l) ((cx c l nm x).1++T)=(split (aR c l) T).cons ⟨nm,y⟩ k:=fun T=>by
  rw[il (dJ c l) (by rw[d]),d];simp only;rw[JQ _ _ _ (zi _)];have:(cx c l nm x).1.extract (cx c l nm x).1.size (cx c l nm x).1.size++T=T:=by
   apply aG;rw[ba,aj,cM,zR (by rw[aa];exact zi _),yD]
  rw[this]
 refine⟨y,k,key, ?_,e,j⟩;have:=key ByteArray.empty;rw[kN,dX (dJ c l) (BM b l)]at this;rw[this];rfl
theorem BN (c:aS)(s:ByteArray):(aW c s).2.2.2<=65536:=by
 unfold aW;by_cases b:c.right=true
 ·rw[zl b];have:=(c.cT).1 b;unfold bo;split
  ·exact yo _
  split
  ·exact yo _
  show(aT c.fr c.un s).2.2.2.2<=65536
  rw[bI];split
  ·exact yo _
  split
  ·exact yo _
  split
  ·exact yo _
  rename_i h
  split
  ·show(aC (ai c.fr s).2.2.1).1<=65536;omega
  show(aC (ai c.fr s).2.2.1).1<=65536;omega
 rw[zj b];exact yo _
theorem u' (c:aS)(s:ByteArray)(d:s.size<=1099511627776):(aW c s).2.1.body.size<=1099511627776:=by
 by_cases b:c.right=true
 ·have h:=(c.cT).1 b;rw[bN b];have:=(Bz c s).2;omega
 have e:aW c s=(1,mw,0,0):=by unfold aW;rw[zj b]
 rw[e];exact yo _
structure mN {α:Type}(nx:Nx α)(x:iI)(s:ByteArray)(l:List α):Prop where
 fault:x.fault=(split nx s).2.2.2
 told:l=(split nx s).1
 buf:x.fault=0->x.buf=(split nx s).2.1
theorem mN.new {c:Type}{b:Nx c}(h:mq b)(d:(b ByteArray.empty).1=2):mN b iI.new ByteArray.empty ([]:List c):=by
 have:=dX h d;exact⟨by rw[this];rfl,by rw[this],fun _=>by rw[this];rfl⟩
theorem mN.l7 {d:Type}{c:Nx d}(h:mq c){x:iI}{s:ByteArray}{l:List d}(hx:mN c x s l)(t:ByteArray):mN c (l7 c x t).1 (s++t) (l++(l7 c x t).2.1):=by
 by_cases b:x.fault=0
 ·have e:=ua h s t (by rw[<-hx.fault];exact b);rw[fh b,hx.buf b,hx.told];exact⟨by rw[e],by rw[e],fun _=>by rw[e]⟩
 have e:=oz h s t;rw[zj (by rw[<-hx.fault];exact b)]at e;rw[eP b,hx.told];exact⟨by rw[e];exact hx.fault,by rw[e];simp,fun i=>absurd i b⟩
theorem mN.same {c:Type}{d:Nx c}{x y:iI}{s:ByteArray}{l m:List c}(hx:mN d x s l)(b:mN d y s m):l=m/\x.fault=y.fault/\(x.fault=0->x.buf=y.buf):=
 ⟨hx.told.trans b.told.symm,hx.fault.trans b.fault.symm,fun h=>(hx.buf h).trans (b.buf (by rw[b.fault,<-hx.fault];exact h)).symm⟩
theorem Ih (c:aS)(l:List bF)(s:ByteArray):(split (aR c l) s).1.length<=s.size:=by
 induction s using kK (dJ c l)with
 |stop s h0=>rw[ik (dJ c l),zj h0];simp
 |go s h0 ih=>
  obtain⟨d,b⟩:=(dJ c l).pos s h0;have hz:(s.extract (aR c l s).2.2.1 s.size).size=s.size-(aR c l s).2.2.1:=an _ _ _ (zi _);rw[il (dJ c l) h0];show(_::_).length<=_
  simp only[zB];omega
theorem Ii (c:aS)(l:List bF)(s:ByteArray):(split (aR c l) s).2.1.size<=s.size:=by
 obtain⟨k,b,e⟩:=s5 (dJ c l) s;rw[e,an _ _ _ (zi _)];omega
theorem Wh (c:aS)(l:List bF)(s:ByteArray):(split (aR c l) s).2.2.1<=65536*(s.size+1):=by
 have h:=dJ c l;have b:∀s,(aR c l s).2.2.2<=65536:=fun s=>by rw[lC];exact BN c s
 induction s using kK h with
 |stop s h0=>
  rw[ik h,zj h0];have:=b s;show(aR c l s).2.2.2<=_
  omega
 |go s h0 ih=>
  rw[il h h0];obtain⟨e,d⟩:=h.pos s h0;have i:=nz s _ e d;have:=b s;show(aR c l s).2.2.2+(split (aR c l) (s.extract (aR c l s).2.2.1 s.size)).2.2.1<=_
  have:65536*((s.extract (aR c l s).2.2.1 s.size).size+1)<=65536*s.size:=Nat.mul_le_mul_left _ (by omega);omega
def fC (L:List UInt8)(a b:Nat):Prop:=L[a]?=L[b]?/\L[a+1]?=L[b+1]?/\L[a+2]?=L[b+2]?/\L[a+3]?=L[b+3]?
instance (L :List UInt8)(a b:Nat):Decidable (fC L a b):=by unfold fC;infer_instance
theorem fC.symm {L:List UInt8}{a b:Nat}(h:fC L a b):fC L b a:=⟨h.1.symm,h.2.1.symm,h.2.2.1.symm,h.2.2.2.symm⟩
theorem fC.trans {L:List UInt8}{a b c:Nat}(h:fC L a b)(k:fC L b c):fC L a c:=⟨h.1.trans k.1,h.2.1.trans k.2.1,h.2.2.1.trans k.2.2.1,h.2.2.2.trans k.2.2.2⟩
def jz (L:List UInt8)(a:Nat):Nat->Option Nat
 |0=>none
 |n+1=>if n+4<=L.length/\fC L n a then some n else jz L a n
theorem mt4 (L:List UInt8)(j i:Nat)(h:j<i)(hi:i<=L.length):4<=mt L j i 64↔i+4<=L.length/\fC L j i:=by
 constructor
 ·intro c;have b:=(Bo L 64 j i).2 hi;exact⟨by omega,Ep L 64 j i 0 (by omega),Ep L 64 j i 1 (by omega),Ep L 64 j i 2 (by omega),Ep L 64 j i 3 (by omega)⟩
 rintro⟨b,g0,g1,g2,g3⟩;have d:mt L j i 64=mt L (j+4) (i+4) 60+4:=by
  rw[mt,zl ⟨by omega,g0⟩,mt,zl ⟨by omega,g1⟩,mt,zl ⟨by omega,g2⟩,mt,zl ⟨by omega,g3⟩]
 omega
theorem va (L:List UInt8)(i:Nat)(hi:i<=L.length)(h:¬i+4<=L.length):∀k,k<=i->Hb L i k=none:=by
 intro k;induction k with
 |zero=>intro _;rfl
 |succ k ih=>
  intro c;rw[Hb,zj (by rw[mt4 L k i (by omega) hi];exact fun b=>h b.1)];exact ih (by omega)
theorem O5 (L:List UInt8)(i:Nat)(hi:i+4<=L.length):∀k,k<=i->Hb L i k=jz L i k:=by
 intro k;induction k with
 |zero=>intro _;rfl
 |succ k ih=>
  intro c;rw[Hb,jz,ih (by omega)];by_cases h:fC L k i
  ·rw[zl ((mt4 L k i (by omega) (by omega)).2 ⟨hi,h⟩),zl ⟨by omega,h⟩]
  rw[zj (fun b=>h ((mt4 L k i (by omega) (by omega)).1 b).2),zj (fun b=>h b.2)]
theorem O6 (L:List UInt8)(a:Nat):∀n j,jz L a n=some j->j<n:=by
 intro n;induction n with
 |zero=>intro j h;simp[jz]at h
 |succ n ih=>
  intro j h;rw[jz]at h;split at h
  ·injection h with h;omega
  have:=ih j h;omega
theorem Ij (L:List UInt8)(a n:Nat)(h:n+4<=L.length)(b:fC L n a):jz L a (n+1)=some n:=by rw[jz,zl ⟨h,b⟩]
theorem sC (L:List UInt8)(a n:Nat)(h:¬(n+4<=L.length/\fC L n a)):jz L a (n+1)=jz L a n:=by rw[jz,zj h]
