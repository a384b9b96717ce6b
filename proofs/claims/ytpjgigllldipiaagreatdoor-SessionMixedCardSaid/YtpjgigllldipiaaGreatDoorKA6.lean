/- The reader with its open lists, against the reader item within item: plain. -/
import Derived.Test.YtpjgigllldipiaaGreatDoorKA5
set_option linter.all false
namespace Go.Proofs.YtpjgigllldipiaaGreatDoor
def zz:=@decide_eq_false
def y8:=@List.mem_singleton
def xo:=@List.mem_of_getElem?
def xN:=@List.getElem_append_left
def xU:=@MapKept.run_getObj_map
def xY:=@List.any_eq_false
def Zb:=@run_underlying
def Zg:=@MapKept.run_checkKey
def Zk:=@List.any_eq_true
def Zn:=@List.mem_of_find?_eq_some
def Zp:=@MapKept.run_findKey
def ZQ:=@List.mem_append
def Yv:=@List.find?_some
def gD (xs:List It):It:= .mk ByteArray.empty true xs
def fin (D M:Int)(s:ByteArray):List It->Nat->List (List It×Nat)->Nat->Nat->Rd
 |acc,en,[],at_,count=>
  if(cK D M (s.extract at_ en) 2 count).e≠0 then Rd.bad (cK D M (s.extract at_ en) 2 count).e
  else⟨gD (acc++(cK D M (s.extract at_ en) 2 count).xs),en,count+(cK D M (s.extract at_ en) 2 count).items,0⟩
 |acc,en,f::rest,at_,count=>
  if(cK D M (s.extract at_ en) (rest.length+3) count).e≠0 then Rd.bad (cK D M (s.extract at_ en) (rest.length+3) count).e
  else fin D M s (f.1++ [gD (acc++(cK D M (s.extract at_ en) (rest.length+3) count).xs)]) f.2 rest en (count+(cK D M (s.extract at_ en) (rest.length+3) count).items)
def LF (D M:Int)(s:ByteArray)(acc:List It)(en:Nat)(rest:List (List It×Nat))(count:Nat)(R:JJ):Rd:=
 if R.e≠0 then Rd.bad R.e
 else match rest with
  | []=>⟨gD (acc++R.xs),en,count+R.items,0⟩
  |f::rest=>fin D M s (f.1++ [gD (acc++R.xs)]) f.2 rest en (count+R.items)
theorem uK (D M:Int)(s:ByteArray)(acc:List It)(b:Nat)(rest:List (List It×Nat))(at_ count:Nat):fin D M s acc b rest at_ count=LF D M s acc b rest count (cK D M (s.extract at_ b) (rest.length+2) count):=by
 cases rest with
 |nil=>rw[fin];rfl
 |cons f rest=>rw[fin];rfl
theorem Cy (s:ByteArray)(a b i j:Nat)(c:a+j<=b):(s.extract a b).extract i j=s.extract (a+i) (a+j):=by
 apply aL;rw[aq,aq,aq,List.take_drop,xR,xD,yK (by omega)]
theorem Bu (D M:Int)(s:ByteArray)(acc:List It)(c:Nat)(rest:List (List It×Nat))(count k:Nat)(x:It)(R R':JJ)(h:R=(if R'.e≠0 then JJ.bad R'.e else⟨x::R'.xs,k+R'.items,0⟩)):
 LF D M s acc c rest count R=LF D M s (acc++ [x]) c rest (count+k) R':=by
 subst h;unfold LF;by_cases b:R'.e≠0
 ·rw[zl b,zl b,zl (by exact b)];rfl
 rw[zj b,zj b,zj (by simp)];cases rest with
 |nil=>simp[yw]
 |cons f rest=>simp[yw]
theorem LG (D M:Int):∀(z:Nat) (s:ByteArray) (deep ahead:Nat),s.size<=z->(cK D M s deep ahead).e≠2:=by
 intro z;induction z with
 |zero=>intro s deep ahead h;rw[jf _ _ _ _ _ (by omega)];simp
 |succ z ih=>
  intro s deep ahead h;by_cases d:s.size=0
  ·rw[jf _ _ _ _ _ d];simp
  rw[gV D M s deep ahead d _ rfl];have c:=mD D M (2*s.size+2) s deep ahead;change(bp D M s deep ahead).e=0->1<=(bp D M s deep ahead).size/\(bp D M s deep ahead).size<=s.size at c
  generalize bp D M s deep ahead=R at*;by_cases b:R.e≠0
  ·rw[zl b];show within R.e≠2
   unfold within;split<;>omega
  rw[zj b];have c:=c (zJ.1 b);have i:(s.extract R.size s.size).size=s.size-R.size:=an _ _ _ (zf _);have e:=ih (s.extract R.size s.size) deep (ahead+R.items) (by omega);split
  ·exact e
  simp
theorem SF (D M:Int)(s:ByteArray)(acc:List It)(b:Nat)(rest:List (List It×Nat))(at_ count:Nat)(i:at_<b)(h:b<=s.size)(H:Bool×Nat×Nat×Int)
 (d:hd (s.extract at_ b) (aE D (rest.length+2)) (aF M count)=H) (c:H.2.2.2≠0):fin D M s acc b rest at_ count=Rd.bad (within H.2.2.2):=by
 have hz:(s.extract at_ b).size=b-at_:=an _ _ _ h;have e:within H.2.2.2≠0:=by unfold within;split<;>simp_all
 rw[uK,gV D M _ _ _ (by omega) _ rfl,dK D M _ _ _ H d,zl c,zl (show(Rd.bad H.2.2.2).e≠0 from c)];unfold LF;rw[zl (show(JJ.bad (within (Rd.bad H.2.2.2).e)).e≠0 from e)];rfl
theorem OC (D M:Int)(s:ByteArray)(acc:List It)(b:Nat)(rest:List (List It×Nat))(at_ count:Nat)(k:at_<b)(j:b<=s.size)(H:Bool×Nat×Nat×Int)
 (d:hd (s.extract at_ b) (aE D (rest.length+2)) (aF M count)=H) (e:H.2.2.2=0) (i:H.1=false):
 fin D M s acc b rest at_ count=fin D M s (acc++ [.mk (s.extract (at_+H.2.1) (at_+H.2.1+H.2.2.1)) false []]) b rest (at_+H.2.1+H.2.2.1) (count+1)/\at_+H.2.1+H.2.2.1<=b:=by
 have hz:(s.extract at_ b).size=b-at_:=an _ _ _ j;have c:=sm (s.extract at_ b) (aE D (rest.length+2)) (aF M count);rw[d]at c;have c:=c e;refine⟨?_,by omega⟩;have h:bp D M (s.extract at_ b) (rest.length+2) count=⟨.mk ((s.extract at_ b).extract H.2.1 (H.2.1+H.2.2.1)) false [],H.2.1+H.2.2.1,1,0⟩:=by
  rw[dK D M _ _ _ H d,zj (show¬H.2.2.2≠0 by simp[e]),zl i]
 rw[uK,uK];refine Bu D M s acc b rest count 1 _ _ _ ?_;rw[gV D M _ _ _ (by omega) _ h];dsimp only;rw[zj (by simp),hz,Cy s at_ b _ _ (by omega),Cy s at_ b _ _ (by omega),show at_+(b-at_)=b from by omega,yw]
theorem OD (D M:Int)(s:ByteArray)(acc:List It)(b:Nat)(rest:List (List It×Nat))(at_ count:Nat)(o:at_<b)(n:b<=s.size)(H:Bool×Nat×Nat×Int)
 (e:hd (s.extract at_ b) (aE D (rest.length+2)) (aF M count)=H) (i:H.2.2.2=0) (j:H.1=true):
 fin D M s acc b rest at_ count=fin D M s [] (at_+H.2.1+H.2.2.1) ((acc,b)::rest) (at_+H.2.1) (count+1)/\at_+H.2.1+H.2.2.1<=b/\1<=H.2.1:=by
 have hz:(s.extract at_ b).size=b-at_:=an _ _ _ n;have d:=sm (s.extract at_ b) (aE D (rest.length+2)) (aF M count);rw[e]at d;have d:=d i;refine⟨?_,by omega,d.2.2.2 j⟩;have h:=dK D M (s.extract at_ b) (rest.length+2) count H e;rw[zj (show¬H.2.2.2≠0 by simp[i]),zj (show¬H.1=false by simp[j]),Cy s at_ b _ _ (by omega),<-yw,show rest.length+2+1=rest.length+3 from by omega]at h;rw[uK,gV D M _ _ _ (by omega) _ h,fin];have k:=LG D M (s.extract (at_+H.2.1) (at_+H.2.1+H.2.2.1)).size (s.extract (at_+H.2.1) (at_+H.2.1+H.2.2.1)) (rest.length+3) (count+1) (zf _);generalize cK D M (s.extract (at_+H.2.1) (at_+H.2.1+H.2.2.1)) (rest.length+3) (count+1)=R at*;by_cases c:R.e≠0
 ·have l:within R.e≠0:=by unfold within;split<;>simp_all
  have m:within R.e=R.e:=by unfold within;rw[zj k]
  rw[zl c,zl (show(Rd.bad R.e).e≠0 from c)];unfold LF;rw[zl (show(JJ.bad (within (Rd.bad R.e).e)).e≠0 from l)];show Rd.bad (within R.e)=_
  rw[m,zl c]
 rw[zj c];dsimp only;rw[zj (by simp),uK,hz,Cy s at_ b _ _ (by omega),show at_+(b-at_)=b from by omega,<-yw];refine(Bu D M s acc b rest count (1+R.items) (gD R.xs) _ _ rfl).trans ?_;rw[zj c];simp[gD,yw]
theorem LH (D M:Int)(s:ByteArray)(acc:List It)(b:Nat)(f:List It×Nat)(rest:List (List It×Nat))(count:Nat)(c:b<=s.size):fin D M s acc b (f::rest) b count=fin D M s (f.1++ [gD acc]) f.2 rest b count:=by
 rw[fin,jf _ _ _ _ _ (by rw[an _ _ _ c];omega)];simp
theorem OE (D M:Int)(s:ByteArray)(acc:List It)(b:Nat)(count:Nat)(c:b<=s.size):fin D M s acc b [] b count=⟨gD acc,b,count,0⟩:=by
 rw[fin,jf _ _ _ _ _ (by rw[an _ _ _ c];omega)];simp
theorem qW (D M:Int)(s:ByteArray)(H:Bool×Nat×Nat×Int)(b:hd s (aE D 1) (aF M 0)=H):
 (H.2.2.2≠0->bp D M s 1 0=Rd.bad H.2.2.2)/\(H.2.2.2=0->H.1=false->bp D M s 1 0=⟨.mk (s.extract H.2.1 (H.2.1+H.2.2.1)) false [],H.2.1+H.2.2.1,1,0⟩)/\
 (H.2.2.2=0->H.1=true->bp D M s 1 0=fin D M s [] (H.2.1+H.2.2.1) [] H.2.1 1):=by
 refine⟨fun h=> ?_,fun h c=> ?_,fun h c=> ?_⟩
 ·rw[dK D M s 1 0 H b,zl h]
 ·rw[dK D M s 1 0 H b,zj (by simp[h]),zl c]
 rw[dK D M s 1 0 H b,zj (by simp[h]),zj (by simp[c]),fin];simp only[zT];split
 ·rfl
 simp[gD]
theorem dZ (b n:Nat):(cw b n).length=if n<=55 then 1 else 1+(cA n).length:=by unfold cw;split<;>simp;omega
theorem EJ (s:ByteArray)(b n:Nat)(r:List UInt8)(w:b=128\/b=192)(c:s.data.toList=cw b n++r)(x:n<=r.length)(u:n<18446744073709551616)(p:b=128->n=1->128<=(r.getD 0 0).toNat):
 wU s=(decide (b=192),(cw b n).length,n,0):=by
 have hz:s.size=(cw b n).length+r.length:=by rw[<-aa,c,zp]
 rw[dZ]at hz⊢;by_cases h:n<=55
 ·rw[zl h]at hz⊢;rw[cw,zl h]at c;have d:(s.data.toList.getD 0 0).toNat=b+n:=by rw[c,ZG,ZU,bg _ (by omega)]
  have k:s.data.toList.getD 1 0=r.getD 0 0:=by rw[c,ZG,List.getD_cons_succ]
  unfold wU;rw[d,k];dsimp only;have j:(if 192<=b+n then b+n-192 else b+n-128)=n:=by split<;>omega
  have i:decide (192<=b+n)=decide (b=192):=by rw[yX];simp;omega
  rw[zj (by omega),j,i];simp only[zl h];rw[zj (by omega),zj];rintro⟨l,a2,a3⟩;have a4:b=128:=by
   have:b≠192:=by simpa using l
   omega
  have:=p a4 a2;omega
 rw[zj h]at hz⊢;rw[cw,zj h]at c;have A:=fW 8 n (by simpa using u);have y:1<=(cA n).length:=by
  have:=JI n (by omega);cases hl:cA n with
  |nil=>exact absurd hl this
  |cons a b=>simp
 have q:=Br n (by omega);have d:(s.data.toList.getD 0 0).toNat=b+55+(cA n).length:=by rw[c,ya,ZU,bg _ (by omega)]
 have k:s.data.toList.getD 1 0=(cA n).getD 0 0:=by
  rw[c,ya,List.getD_cons_succ,zA,xH (by omega),<-zA]
 have o:(s.extract 1 (1+(cA n).length)).data.toList=cA n:=by
  rw[aq,c,ya,ZA 1,zR,yf,zQ,ye (zf _),Yi]
 have z:((cA n).getD 0 0).toNat≠0:=fun e=>q (zW.1 e)
 unfold wU;rw[d,k];dsimp only;have j:(if 192<=b+55+(cA n).length then b+55+(cA n).length-192 else b+55+(cA n).length-128)=55+(cA n).length:=by split<;>omega
 have i:decide (192<=b+55+(cA n).length)=decide (b=192):=by rw[yX];simp;omega
 rw[zj (by omega),j,i];have m:¬55+(cA n).length<=55:=by omega
 simp only[zj m,Nat.add_sub_cancel_left,o,JH];rw[zj (by omega),zj (by omega),zj (by omega)]
theorem VP (s:ByteArray)(x:0<s.size)(H:Bool×Nat×Nat×Int)(y:wU s=H)(c:H.2.2.2=0):
 (H=(false,0,1,0)/\(s.data.toList.getD 0 0).toNat<128)\/
 (s.data.toList.take H.2.1=cw (if H.1=true then 192 else 128) H.2.2.1/\1<=H.2.1/\H.2.1=(cw (if H.1=true then 192 else 128) H.2.2.1).length/\¬(H.1=false/\H.2.2.1=1/\(s.data.toList.getD H.2.1 0).toNat<128)):=by
 subst y;have o:s.data.toList=s.data.toList.getD 0 0::s.data.toList.drop 1:=by
  have:=drop_cons s 0 x;rw[zQ]at this;rw[this];simp
 unfold wU at c⊢;dsimp only at c⊢;have A:=(s.data.toList.getD 0 0).toNat_lt;have q:ub (((s.data.toList.getD 0 0).toNat:Nat):Int)=s.data.toList.getD 0 0:=by
  apply zW.1;rw[bg _ A]
 generalize D:(s.data.toList.getD 0 0).toNat=b at*;by_cases l:b<128
 ·rw[zl l];exact .inl ⟨rfl,l⟩
 rw[zj l]at c⊢;right;generalize m:(if 192<=b then b-192 else b-128)=d at*;have w:(if decide (192<=b)=true then 192 else 128)+d=b:=by
  rw[<-m];by_cases h:192<=b<;>simp[h];omega
 have C:d<=63:=by rw[<-m];split<;>omega
 by_cases j:d<=55
 ·simp only[zl j]at c⊢;by_cases i:s.size<1+d
  ·rw[zl i]at c;simp at c
  rw[zj i]at c⊢;split at c
  ·simp at c
  rename_i k
  rw[zj k];dsimp only;refine⟨?_,zf _, ?_,k⟩
  ·rw[o,zR,yB,cw,zl j,w,q]
  rw[dZ,zl j]
 simp only[zj j]at c⊢;by_cases i:s.size<1+(d-55)
 ·rw[zl i]at c;simp at c
 rw[zj i]at c⊢;split at c
 ·simp at c
 rename_i k
 rw[zj k];split at c
 ·simp at c
 rename_i B
 rw[zj B];dsimp only;have z:(s.data.toList.getD 1 0).toNat≠0:=by omega
 have u:(s.extract 1 (1+(d-55))).data.toList=(s.data.toList.drop 1).take (d-55):=by rw[aq,List.take_drop]
 have p:((s.data.toList.drop 1).take (d-55)).length=d-55:=by rw[yc,zZ,aa];omega
 have r:cA (la (s.extract 1 (1+(d-55))).data.toList)=(s.data.toList.drop 1).take (d-55):=by
  rw[u];refine EA _ ?_;rw[zA,yP (by omega),xE,<-zA];intro e;apply z;rw[show 1+0=1 from rfl]at e;rw[e];rfl
 generalize la (s.extract 1 (1+(d-55))).data.toList=n at*;refine⟨?_,by omega, ?_, ?_⟩
 ·rw[cw,zj (by omega),r,p];rw[o,ZA 1 (d-55),zR,yf,zQ];congr 1
  rw[<-q];congr 2;omega
 ·rw[dZ,zj (by omega),r,p]
 omega
theorem Uq (s:ByteArray)(d m:Bool)(h:(hd s d m).2.2.2=0):0<s.size/\d=false/\m=false/\hd s d m=wU s:=by
 unfold hd at h⊢;by_cases e:s.size=0
 ·rw[zl e]at h;simp at h
 rw[zj e]at h⊢;by_cases b:d=true
 ·rw[zl b]at h;simp at h
 rw[zj b]at h⊢;by_cases c:m=true
 ·rw[zl c]at h;simp at h
 rw[zj c];exact⟨by omega,by simpa using b,by simpa using c,rfl⟩
theorem uL {D:Int}{deep:Nat}:aE D deep=false↔(deep:Int)<=D/\deep<=16:=by simp[aE]
theorem oE {M:Int}{ahead:Nat}:aF M ahead=false↔(ahead:Int)+1<=M/\ahead+1<=1024:=by simp[aF]
structure aa3 (D M:Int)(x:It)(l:List UInt8)(deep ahead items:Nat):Prop where
 fA:x.fA=l
 right:x.right=true
 items:items=x.count
 deepD:(deep:Int)+x.deep<=D+1
 deep16:deep+x.deep<=17
 manyM:(ahead:Int)+x.count<=M
 many:ahead+x.count<=1024
structure Ur (D M:Int)(xs:List It)(l:List UInt8)(deep ahead items:Nat):Prop where
 fA:fc xs=l
 right:cW xs=true
 items:items=aG xs
 deepD:xs≠ []->(deep:Int)+cC xs<=D+1
 deep16:xs≠ []->deep+cC xs<=17
 manyM:xs≠ []->(ahead:Int)+aG xs<=M
 many:xs≠ []->ahead+aG xs<=1024
theorem OF (x:It):1<=x.deep:=by cases x;simp[It.deep]
theorem SG (D M:Int):∀(z:Nat),(∀(s:ByteArray) (deep ahead:Nat),s.size<=z->(bp D M s deep ahead).e=0->aa3 D M (bp D M s deep ahead).x (s.data.toList.take (bp D M s deep ahead).size) deep ahead (bp D M s deep ahead).items)/\
 (∀(s:ByteArray) (deep ahead:Nat),s.size<=z->(cK D M s deep ahead).e=0->Ur D M (cK D M s deep ahead).xs s.data.toList deep ahead (cK D M s deep ahead).items):=by
 have O:∀(s:ByteArray) (deep ahead:Nat),s.size=0->Ur D M (cK D M s deep ahead).xs s.data.toList deep ahead (cK D M s deep ahead).items:=by
  intro s deep ahead h;rw[jf _ _ _ _ _ h];have:s.data.toList= []:=zw (by rw[aa];exact h);rw[this];exact⟨rfl,rfl,rfl,by simp,by simp,by simp,by simp⟩
 intro z;induction z with
 |zero=>
  refine⟨fun s deep ahead hz d=> ?_,fun s deep ahead hz _=>O s deep ahead (by omega)⟩;rw[dK D M s deep ahead _ rfl]at d;have:hd s (aE D deep) (aF M ahead)=(false,0,0,2):=by simp[hd,show s.size=0 by omega]
  rw[this]at d;simp[Rd.bad]at d
 |succ z ih=>
  obtain⟨ab,K⟩:=ih;have G:∀(s:ByteArray) (deep ahead:Nat),s.size<=z+1->(bp D M s deep ahead).e=0->aa3 D M (bp D M s deep ahead).x (s.data.toList.take (bp D M s deep ahead).size) deep ahead (bp D M s deep ahead).items:=by
   intro s deep ahead hz d;have c:=dK D M s deep ahead _ rfl;have o:=Uq s (aE D deep) (aF M ahead);have n:=sm s (aE D deep) (aF M ahead);generalize hd s (aE D deep) (aF M ahead)=H at*;by_cases j:H.2.2.2≠0
   ·rw[zl j]at c;rw[c]at d;exact absurd d j
   have x:=zJ.1 j;obtain⟨Z,S,U,W⟩:=o x;obtain⟨_,L,WY,X⟩:=n x;obtain⟨d1,d2⟩:=uL.1 S;obtain⟨m1,m2⟩:=oE.1 U;have his:=VP s Z H W.symm x;rw[zj j]at c;by_cases i:H.1=false
   ·rw[zl i]at c;rw[c];dsimp only;have k:(s.extract H.2.1 (H.2.1+H.2.2.1)).size=H.2.2.1:=by rw[an _ _ _ L];omega
    have m:s.data.toList.take H.2.1++(s.extract H.2.1 (H.2.1+H.2.2.1)).data.toList=s.data.toList.take (H.2.1+H.2.2.1):=by
     rw[aq];have:=zN H.2.1 (s.data.toList.take (H.2.1+H.2.2.1));rwa [xD,yK (by omega)]at this
    refine⟨?_,by simp[It.right,formed,cW],by simp[It.count,aG],by simp[It.deep,cC];omega,by simp[It.deep,cC];omega,by simp[It.count,aG];omega,by simp[It.count,aG];omega⟩;have w:(s.extract H.2.1 (H.2.1+H.2.2.1)).data.toList.getD 0 0=if H.2.2.1=0 then 0 else s.data.toList.getD H.2.1 0:=by
     rw[aq,zA,xE];split
     ·rename_i h;rw[xh (by rw[yc];omega)];rfl
     rw[yP (by omega),<-zA];rfl
    rcases his with⟨r,aC⟩|⟨l,h4,N,J⟩
    ·rw[r]at k m w⊢;dsimp only at*;rw[It.fA,zj (by simp),zl ⟨k,by rw[w];simpa using aC⟩,<-m];simp
    rw[It.fA,zj (by simp),zj (by rintro⟨a,b⟩;apply J;rw[k]at a;rw[w,zj (by omega)]at b;exact⟨i,a,b⟩),k,<-m,l,zj (by simp[i])]
   rw[zj i]at c;have I:H.1=true:=by simpa using i
   have k:(s.extract H.2.1 (H.2.1+H.2.2.1)).size=H.2.2.1:=by rw[an _ _ _ L];omega
   have ae:=X I;have hS:=K (s.extract H.2.1 (H.2.1+H.2.2.1)) (deep+1) (ahead+1) (by omega);have m:s.data.toList.take H.2.1++(s.extract H.2.1 (H.2.1+H.2.2.1)).data.toList=s.data.toList.take (H.2.1+H.2.2.1):=by
    rw[aq];have:=zN H.2.1 (s.data.toList.take (H.2.1+H.2.2.1));rwa [xD,yK (by omega)]at this
   generalize cK D M (s.extract H.2.1 (H.2.1+H.2.2.1)) (deep+1) (ahead+1)=R at*;by_cases l:R.e≠0
   ·rw[zl l]at c;rw[c]at d;exact absurd d l
   rw[zj l]at c;rw[c];dsimp only;obtain⟨B,u,y,C,A,p,E⟩:=hS (zJ.1 l);have F:R.xs= []\/R.xs≠ []:=by cases R.xs<;>simp
   refine⟨?_,by simp[It.right,formed,u],by simp[It.count,y], ?_, ?_, ?_, ?_⟩
   ·rcases his with⟨r,_⟩|⟨N,J,h7,h8⟩
    ·rw[r]at i;simp at i
    rw[It.fA,zl rfl,B,aa,k,<-m,N,zl I]
   all_goals
    rcases F with e|e
    ·rw[e];simp[It.deep,cC,It.count,aG];try omega
    first
    |(have:=C e;simp only[It.deep];omega)
    |(have:=A e;simp only[It.deep];omega)
    |(have:=p e;simp only[It.count];omega)
    |(have:=E e;simp only[It.count];omega)
  refine⟨G,fun s deep ahead hz d=> ?_⟩;by_cases o:s.size=0
  ·exact O s deep ahead o
  have c:=gV D M s deep ahead o _ rfl;have q:=G s deep ahead hz;have n:=mD D M (2*s.size+2) s deep ahead;change(bp D M s deep ahead).e=0->1<=(bp D M s deep ahead).size/\(bp D M s deep ahead).size<=s.size at n
  generalize bp D M s deep ahead=R at*;by_cases j:R.e≠0
  ·rw[zl j]at c;rw[c]at d;have:within R.e≠0:=by unfold within;split<;>simp_all
   exact absurd d this
  have q:=q (zJ.1 j);have n:=n (zJ.1 j);rw[zj j]at c;have ad:(s.extract R.size s.size).size=s.size-R.size:=an _ _ _ (zf _);have hS:=K (s.extract R.size s.size) deep (ahead+R.items) (by omega);generalize cK D M (s.extract R.size s.size) deep (ahead+R.items)=T at*;by_cases i:T.e≠0
  ·rw[zl i]at c;rw[c]at d;exact absurd d i
  rw[zj i]at c;rw[c];dsimp only;obtain⟨Y,a2,a3,a4,a5,a6,a7⟩:=q;obtain⟨B,u,y,C,A,p,E⟩:=hS (zJ.1 i);have F:T.xs= []\/T.xs≠ []:=by cases T.xs<;>simp
  refine⟨?_,by simp[cW,a2,u],by simp[aG,a3,y],fun _=> ?_,fun _=> ?_,fun _=> ?_,fun _=> ?_⟩
  ·rw[fc,Y,B,aq,dh,zN]
  all_goals
   rcases F with e|e
   ·rw[e];simp only[cC,aG];omega
   have:=C e;have:=A e;have:=p e;have:=E e;simp only[cC,aG];omega
theorem VQ (D M:Int)(x:It):∀(s:ByteArray) (more:List UInt8) (deep ahead:Nat),s.data.toList=x.fA++more->s.size<18446744073709551616->x.right=true->(deep:Int)+x.deep<=D+1->deep+x.deep<=17->(ahead:Int)+x.count<=M->ahead+x.count<=1024->
 bp D M s deep ahead=⟨.mk (if x.list=true then ByteArray.empty else x.text) x.list x.sub,x.fA.length,x.count,0⟩:=by
 induction x using It.ind with
 |h t l xs ih=>
  intro s more deep ahead c aC k W X O U;have hz:s.size=(It.mk t l xs).fA.length+more.length:=by rw[<-aa,c,zp]
  have Y:=OF (.mk t l xs);have Z:=Bc (.mk t l xs);have m:0<s.size->hd s (aE D deep) (aF M ahead)=wU s:=by
   intro h;unfold hd;rw[zj (by omega),uL.2 (by omega),oE.2 (by omega)];simp
  cases l with
  |false=>
   have K:xs= []:=by
    simp only[It.right,formed,zF]at k;exact zw (by simpa using k.1)
   subst K;rw[It.fA,zj (by simp)]at c hz⊢;by_cases j:t.size=1/\(t.data.toList.getD 0 0).toNat<128
   ·rw[zl j]at c hz⊢;rw[aa]at hz;have C:s.data.toList.getD 0 0=t.data.toList.getD 0 0:=by
     rw[c,zA,xH (by rw[aa];omega),<-zA]
    have i:hd s (aE D deep) (aF M ahead)=(false,0,1,0):=by
     rw[m (by omega)];unfold wU;rw[C];dsimp only;rw[zl j.2]
    rw[dK D M s deep ahead _ i];simp only[It.tv,It.tu,It.gu,It.count,aG];have:s.extract 0 (0+1)=t:=by
     apply aL;rw[aq,c,zQ,ye (by rw[aa];omega),zC (by rw[aa];omega)]
    simp[this,j.1]
   rw[zj j]at c hz⊢;rw[zI]at c;have i:hd s (aE D deep) (aF M ahead)=(decide (128=192),(cw 128 t.size).length,t.size,0):=by
    rw[zp,aa]at hz;have A:1<=(cw 128 t.size).length:=by rw[dZ];split<;>omega
    rw[m (by omega)];refine EJ s 128 t.size _ (.inl rfl) c (by simp) (by omega) ?_;intro _ B;have:((t.data.toList++more).getD 0 0)=t.data.toList.getD 0 0:=by
     rw[zA,xH (by rw[aa];omega),<-zA]
    rw[this];exact Nat.le_of_not_lt fun h=>j ⟨B,h⟩
   rw[dK D M s deep ahead _ i];simp only[It.tv,It.tu,It.gu,It.count,aG];have:s.extract (cw 128 t.size).length ((cw 128 t.size).length+t.size)=t:=by
    apply aL;rw[aq,c,<-zI,ye (by rw[zp,aa];omega),zC (by rw[zp,aa];omega),List.drop_left]
   simp[this]
  |true=>
   rw[It.fA,zl rfl]at c hz⊢;rw[zI]at c;rw[zp]at hz;have A:1<=(cw 192 (fc xs).length).length:=by rw[dZ];split<;>omega
   have i:hd s (aE D deep) (aF M ahead)=(decide (192=192),(cw 192 (fc xs).length).length,(fc xs).length,0):=by
    rw[m (by omega)];exact EJ s 192 (fc xs).length _ (.inr rfl) c (by simp) (by omega) (by omega)
   have o:(s.extract (cw 192 (fc xs).length).length ((cw 192 (fc xs).length).length+(fc xs).length)).data.toList=fc xs:=by
    rw[aq,c,<-zI,ye (by rw[zp];omega),zC (by rw[zp];omega),List.drop_left]
   rw[dK D M s deep ahead _ i];simp only[It.tv,It.tu,It.gu];rw[zj (by simp),zj (by simp)];simp only[It.right,zF]at k;have q:=k.2;have R:(deep:Int)+1+cC xs<=D+1:=by simp only[It.deep]at W;omega
   have G:deep+1+cC xs<=17:=by simp only[It.deep]at X;omega
   have ab:(ahead:Int)+1+aG xs<=M:=by simp only[It.count]at O;omega
   have ad:ahead+1+aG xs<=1024:=by simp only[It.count]at U;omega
   have I:∀(b:List It),(∀y∈b,y∈xs)->∀(u:ByteArray) (a:Nat),u.data.toList=fc b->u.size<18446744073709551616->cW b=true->(deep:Int)+1+cC b<=D+1->deep+1+cC b<=17->(a:Int)+aG b<=M->a+aG b<=1024->cW b=true->
    cK D M u (deep+1) a=⟨b,aG b,0⟩:=by
    intro b;induction b with
    |nil=>
     intro _ u a hu _ _ _ _ _ _ _;rw[jf _ _ _ _ _ (by rw[<-aa,hu];rfl)];rfl
    |cons y b ihy=>
     intro p u a hu F d E r S L _;simp only[cW,zF]at d;simp only[cC]at E r;simp only[aG]at S L;rw[fc]at hu;have n:=ih y (p y (by simp)) u (fc b) (deep+1) a hu F d.1 (by omega) (by omega) (by omega) (by omega);have J:(It.mk (if y.list=true then ByteArray.empty else y.text) y.list y.sub)=y:=by
      cases y with
      |mk t' l' s'=>
       simp only[It.tu,It.tv,It.gu];cases l' with
       |false=>simp
       |true=>
        have H:t'.size=0:=by
         have:=d.1;simp only[It.right,formed,zF]at this;simpa using this.1
        have:t'=ByteArray.empty:=aL (by rw[zw (show t'.data.toList.length=0 by rw[aa];exact H)];rfl);rw[this];simp
     have e:=mD D M (2*u.size+2) u (deep+1) a;change(bp D M u (deep+1) a).e=0->1<=(bp D M u (deep+1) a).size/\(bp D M u (deep+1) a).size<=u.size at e
     rw[n]at e;have e:=e rfl;dsimp only at e;rw[gV D M u (deep+1) a (by omega) _ n];dsimp only;rw[zj (by simp)];have w:(u.extract y.fA.length u.size).data.toList=fc b:=by rw[aq,dh,hu,List.drop_left]
     have N:=ihy (fun z hz=>p z (by simp[hz])) (u.extract y.fA.length u.size) (a+y.count) w (by rw[an _ _ _ (zf _)];omega) d.2 (by omega) (by omega) (by omega) (by omega) d.2;rw[N];dsimp only;rw[zj (by simp),J,aG]
   rw[I xs (fun _ h=>h) _ _ o (by rw[<-aa,o];omega) q R G (by omega) (by omega) q];dsimp only;rw[zj (by simp),zp,It.count];simp
theorem SH (D M:Int)(x:It)(s:ByteArray)(more:List UInt8)(deep ahead:Nat)(j:s.data.toList=x.fA++more)(i:s.size<18446744073709551616)(b:x.right=true)(h:(deep:Int)+x.deep<=D+1)(k:deep+x.deep<=17)(d:(ahead:Int)+x.count<=M)(e:ahead+x.count<=1024):
 bp D M s deep ahead=⟨x,x.fA.length,x.count,0⟩:=by
 rw[VQ D M x s more deep ahead j i b h k d e];cases x with
 |mk t l xs=>
  cases l with
  |false=>rfl
  |true=>
   have c:t.size=0:=by
    simp only[It.right,formed,zF]at b;simpa using b.1
   have:t=ByteArray.empty:=aL (by rw[zw (show t.data.toList.length=0 by rw[aa];exact c)];rfl);subst this;rfl
theorem EK (b n:Nat)(h:n<18446744073709551616):(cw b n).length<=9:=by
 rw[dZ];have:=fW 8 n (by simpa using h);split<;>omega
theorem Hg (s:List It)(b:∀x∈s,x.total+9*x.count<1099511627776->x.fA.length<=x.total+9*x.count):ll s+9*aG s<1099511627776->(fc s).length<=ll s+9*aG s:=by
 induction s with
 |nil=>simp[fc]
 |cons x xs F1=>
  intro h;simp only[ll,aG]at h;have d:=b x (by simp) (by omega);have e:=F1 (fun y c=>b y (by simp[c])) (by omega);simp only[fc,ll,aG,zp];omega
theorem LI (x:It):x.total+9*x.count<1099511627776->x.fA.length<=x.total+9*x.count:=by
 induction x using It.ind with
 |h t l s ih=>
  intro h;simp only[It.total,It.count]at h;have c:=Hg s ih (by omega);rw[It.fA];simp only[It.total,It.count];by_cases b:l=true
  ·rw[zl b,zp];have:=EK 192 (fc s).length (by omega);omega
  rw[zj b];split
  ·have:t.data.toList.length=t.size:=aa t;omega
  rw[zp];have:=EK 128 t.size (by omega);have:t.data.toList.length=t.size:=aa t;omega
theorem Bv (x:It)(h:x.mn=false):x.fA.length<=20000:=by
 have b:=rT x h;have c:=G5 x;simp only[It.mn,Zi,yV]at h;have d:=LI x (by omega);omega
def lq (D M:Int)(s:ByteArray):Int:=if(bp D M s 1 0).e≠0 then(bp D M s 1 0).e else if(bp D M s 1 0).size<s.size then 3 else 0
def iG (D M:Int)(s:ByteArray):It:=if lq D M s≠0 then iU else(bp D M s 1 0).x
theorem Bw (x:It):x.may=true↔x.right=true/\x.deep<=16/\x.count<=1024:=by
 simp only[It.may,zF,yj,and_assoc]
theorem oF (x:It)(D M:Int):fz x D M=0↔x.may=true/\(x.deep:Int)<=D/\(x.count:Int)<=M:=by
 unfold fz;cases x.may<;>simp
 split
 ·simp;omega
 split
 ·simp;omega
 simp;omega
theorem OG (D M:Int)(x:It)(h:fz x D M=0)(s:ByteArray)(d:s.data.toList=x.fA)(hz:s.size<18446744073709551616):lq D M s=0/\iG D M s=x:=by
 rw[oF,Bw]at h;obtain⟨⟨e,m,l⟩,j,i⟩:=h;have b:=SH D M x s [] 1 0 (by simpa using d) hz e (by omega) (by omega) (by omega) (by omega);have k:s.size=x.fA.length:=by rw[<-d,aa]
 have c:lq D M s=0:=by
  unfold lq;rw[b];simp;omega
 refine⟨c, ?_⟩;unfold iG;rw[zj (by simp[c]),b]
theorem OH (D M:Int)(s:ByteArray)(h:lq D M s=0):fz (iG D M s) D M=0/\(iG D M s).fA=s.data.toList:=by
 have hx:iG D M s=(bp D M s 1 0).x:=by unfold iG;rw[zj (by simp[h])]
 rw[hx];unfold lq at h;have b:=(SG D M s.size).1 s 1 0 (zf _);generalize bp D M s 1 0=R at*;by_cases c:R.e≠0
 ·rw[zl c]at h;exact absurd h c
 rw[zj c]at h;have b:=b (zJ.1 c);have d:¬R.size<s.size:=by intro d;rw[zl d]at h;simp at h
 have j:s.data.toList.length=s.size:=aa s;refine⟨?_, ?_⟩
 ·rw[oF,Bw];have i:=b.deepD;have e:=b.deep16;have a3:=b.manyM;have a4:=b.many;exact⟨⟨b.right,by omega,by omega⟩,by omega,by omega⟩
 rw[b.fA,zC (by omega)]
theorem Bx (ty:Ty)(x:It):eB ty x=0↔ty.may=true/\x.may=true/\x.cX ty=true:=by
 unfold eB;cases ty.may<;>cases x.may<;>cases x.cX ty<;>simp
def gE (ty:Ty)(x:It)(D M:Int):Int:=if eB ty x≠0 then eB ty x else fz x D M
def jW (ty:Ty)(s:ByteArray)(D M:Int):Int:=if ty.may=false then 1 else if lq D M s≠0 then lq D M s else eB ty (iG D M s)
def pJ (ty:Ty)(s:ByteArray)(D M:Int):It:=if jW ty s D M≠0 then iU else iG D M s
theorem lr (ty:Ty)(x:It)(D M:Int):gE ty x D M=0↔eB ty x=0/\fz x D M=0:=by
 unfold gE;split<;>simp_all
theorem oG (ty:Ty)(s:ByteArray)(D M:Int):jW ty s D M=0↔ty.may=true/\lq D M s=0/\eB ty (iG D M s)=0:=by
 unfold jW;cases ty.may
 ·simp
 simp only[Bool.true_eq_false,Zq,true_and];split<;>simp_all
theorem Cz (ty:Ty)(x:It)(D M:Int)(h:gE ty x D M=0)(s:ByteArray)(c:s.data.toList=x.fA)(hz:s.size<18446744073709551616):jW ty s D M=0/\iG D M s=x:=by
 rw[lr]at h;obtain⟨b,d⟩:=OG D M x h.2 s c hz;rw[oG,d];exact⟨⟨((Bx ty x).1 h.1).1,b,h.1⟩,rfl⟩
theorem CA (ty:Ty)(s:ByteArray)(D M:Int)(h:jW ty s D M=0):gE ty (iG D M s) D M=0/\(iG D M s).fA=s.data.toList:=by
 rw[oG]at h;obtain⟨b,c⟩:=OH D M s h.2.1;rw[lr];exact⟨⟨h.2.2,b⟩,c⟩
structure bA where
 id:Nat
 name:ByteArray
 ty:ByteArray
def bA.shape (e:bA):Ty:=(cI e.ty.data.toList).getD (.mk 0 0 [] 0)
def gd (c:aR)(seen:List bA)(e:bA):Int:=
 if b8 e.name=false then 11 else if(seen.any fun x=>decide (x.name=e.name))=true then 11 else if(seen.any fun x=>decide (x.id=e.id))=true then 1
 else if cI e.ty.data.toList=none then 3 else if c.fm=1/\e.shape.flat=false then 12 else 0
def iP (c:aR):List bA->List bA->Int
 |_,[]=>0
 |seen,e::r=>if gd c seen e≠0 then gd c seen e else iP c (seen++ [e]) r
def oH (c:aR)(l:List bA):Int:=if c.right=false then 1 else if 32<l.length then 4 else iP c [] l
def fp (l:List bA)(nm:ByteArray):Option bA:=l.find? fun e=>decide (e.name=nm)
def lW (c:aR)(f:Fr)(e:bA):Bool:=(decide (c.fm=1)&&decide (f.nm=e.name)&&decide (f.id=0))||(decide (c.fm≠1)&&decide (f.id=e.id)&&decide (f.nm.size=0))
def fG (c:aR)(l:List bA)(f:Fr):Option bA:=l.find? (lW c f)
def bQ (c:aR)(t:Ty)(x:It):ByteArray×Int:=if c.fm=1 then mH t x c.it else(if gE t x c.de c.it=0 then⟨x.fA.toArray⟩else⟨#[]⟩,gE t x c.de c.it)
def dr (c:aR)(t:Ty)(s:ByteArray):Int×It:=if c.fm=1 then ju t s c.it else(jW t s c.de c.it,pJ t s c.de c.it)
def bD (c:aR)(l:List bA)(nm:ByteArray)(x:It):Fr×Int:=match fp l nm with
 |none=>(nM,11)
 |some e=>if(bQ c e.shape x).2≠0 then(nM,(bQ c e.shape x).2)else if c.fm=1 then(⟨0,e.name,(bQ c e.shape x).1⟩,0)else(⟨e.id,ByteArray.empty,(bQ c e.shape x).1⟩,0)
structure Ms where
 name:ByteArray
 x:It
def qX :Ms:=⟨ByteArray.empty,iU⟩
def eO (c:aR)(l:List bA)(f:Fr):Int×Ms:=match fG c l f with
 |none=>(11,qX)
 |some e=>if(dr c e.shape f.body).1=0 then(0,⟨e.name,(dr c e.shape f.body).2⟩)else if(dr c e.shape f.body).1=2 then(3,qX)else((dr c e.shape f.body).1,qX)
structure cM (c:aR)(l:List bA):Prop where
 may:∀e∈l,b8 e.name=true
 ty:∀e∈l,cI e.ty.data.toList=some e.shape
 flat:c.fm=1->∀e∈l,e.shape.flat=true
 names:∀i j (hi:i<l.length) (hj:j<l.length),l[i].name=l[j].name->i=j
 ids:∀i j (hi:i<l.length) (hj:j<l.length),l[i].id=l[j].id->i=j
theorem cM.nil (c:aR):cM c []:=⟨by simp,by simp,by simp,by simp,by simp⟩
theorem By {c:aR}{seen:List bA}{e:bA}(h:gd c seen e=0):b8 e.name=true/\(∀x∈seen,x.name≠e.name)/\(∀x∈seen,x.id≠e.id)/\cI e.ty.data.toList=some e.shape/\(c.fm=1->e.shape.flat=true):=by
 unfold gd at h;by_cases i:b8 e.name=false
 ·rw[zl i]at h;cases h
 rw[zj i]at h;by_cases k:(seen.any fun x=>decide (x.name=e.name))=true
 ·rw[zl k]at h;cases h
 rw[zj k]at h;by_cases j:(seen.any fun x=>decide (x.id=e.id))=true
 ·rw[zl j]at h;cases h
 rw[zj j]at h;by_cases d:cI e.ty.data.toList=none
 ·rw[zl d]at h;cases h
 rw[zj d]at h;by_cases l:c.fm=1/\e.shape.flat=false
 ·rw[zl l]at h;cases h
 refine⟨by simpa using i,fun x hx b=>k (Zk.2 ⟨x,hx,zH b⟩),fun x hx b=>j (Zk.2 ⟨x,hx,zH b⟩), ?_,fun m=> ?_⟩
 ·obtain⟨t,n⟩:=Option.ne_none_iff_exists'.1 d;unfold bA.shape;rw[n];rfl
 cases hf:e.shape.flat with
 |true=>rfl
 |false=>exact absurd ⟨m,hf⟩ l
theorem cM.snoc {c:aR}{l:List bA}{e:bA}(h:cM c l)(r:gd c l e=0):cM c (l++ [e]):=by
 obtain⟨w,z,y,u,s⟩:=By r;have key:∀{o:Type} (f:bA->o),(∀x∈l,f x≠f e)->(∀i j (hi:i<l.length) (k:j<l.length),f l[i]=f l[j]->i=j)->∀i j (hi:i<(l++ [e]).length) (k:j<(l++ [e]).length),f (l++ [e])[i]=f (l++ [e])[j]->i=j:=by
  intro o f p q i j hi k b;simp only[zp,yF]at hi k;by_cases m:i<l.length
  ·rw[xN m]at b;by_cases d:j<l.length
   ·rw[xN d]at b;exact q i j m d b
   obtain rfl:j=l.length:=by omega
   rw[List.getElem_concat_length rfl]at b;exact absurd b (p _ (zM m))
  obtain rfl:i=l.length:=by omega
  rw[List.getElem_concat_length rfl]at b;by_cases d:j<l.length
  ·rw[xN d]at b;exact absurd b.symm (p _ (zM d))
  omega
 refine⟨fun x hx=> ?_,fun x hx=> ?_,fun n x hx=> ?_,key (·.name) z h.names,key (·.id) y h.ids⟩
 ·rcases ZQ.1 hx with hx|hx
  ·exact h.may x hx
  obtain rfl:=y8.1 hx;exact w
 ·rcases ZQ.1 hx with hx|hx
  ·exact h.ty x hx
  obtain rfl:=y8.1 hx;exact u
 rcases ZQ.1 hx with hx|hx
 ·exact h.flat n x hx
 obtain rfl:=y8.1 hx;exact s n
theorem EL {c:aR}:∀(r seen:List bA),cM c seen->iP c seen r=0->cM c (seen++r)
 | [],seen,h,_=>by simpa using h
 |e::r,seen,h,hz=>by
  rw[iP]at hz;by_cases he:gd c seen e=0
  ·rw[zj (by simp[he])]at hz;have:=EL r (seen++ [e]) (h.snoc he) hz;rwa [zI,ZG]at this
  rw[zl he]at hz;exact absurd hz he
theorem OI {c:aR}{l:List bA}(h:oH c l=0):c.right=true/\l.length<=32/\cM c l:=by
 unfold oH at h;cases hr:c.right with
 |false=>rw[zl hr]at h;cases h
 |true=>
  rw[zj (by simp[hr])]at h;by_cases b:32<l.length
  ·rw[zl b]at h;cases h
  rw[zj b]at h;exact⟨rfl,by omega,by simpa using EL l [] (cM.nil c) h⟩
open Go.RowKit
def mE :List (Value×Value)->Nat->List MapEntry
 | [],_=> []
 |x::xs,b=>⟨x.1,x.2,b⟩::mE xs (b+1)
theorem Bz :∀(l m:List (Value×Value)) (b:Nat),mE (l++m) b=mE l b++mE m (b+l.length)
 | [],m,b=>by simp[mE]
 |x::xs,m,b=>by simp only[ya,mE,Bz xs m,zD];rw[show b+1+xs.length=b+(xs.length+1)from by omega]
theorem JO :∀(l:List (Value×Value)) (b j:Nat),(mE l b)[j]?=(l[j]?).map fun x=>⟨x.1,x.2,b+j⟩
 | [],b,j=>by simp[mE]
 |x::xs,b,0=>by simp[mE]
 |x::xs,b,j+1=>by simp only[mE,List.getElem?_cons_succ,JO xs];rw[show b+1+j=b+(j+1)from by omega]
theorem VR {l:List (Value×Value)}{b:Nat}{e:MapEntry}(h:e∈mE l b):∃x∈l,e.key=x.1/\e.val=x.2:=by
 obtain⟨j,c⟩:=List.getElem?_of_mem h;rw[JO]at c;cases hl:l[j]? with
 |none=>rw[hl]at c;cases c
 |some x=>
  rw[hl]at c;injection c with c;subst c;exact⟨x,xo hl,rfl,rfl⟩
theorem JP {d:TypeDesc}{k:Value}(p:MapKept.IsKey d k)(l:List (Value×Value))(o:∀x∈l,MapKept.IsKey d x.1):
 (Instr.findNow d k (mE l 0) 0=some none/\∀x∈l,x.1≠k)\/∃j x,Instr.findNow d k (mE l 0) 0=some (some (j,x.2))/\l[j]?=some x/\x.1=k:=by
 rcases MapKept.findNow_spec p (mE l 0) 0 (fun e m=>by obtain⟨x,hx,c,_⟩:=VR m;rw[c];exact o x hx)with⟨c,b⟩|⟨j,e,c,b,h⟩
 ·refine .inl ⟨c,fun x hx=> ?_⟩;obtain⟨j,n⟩:=List.getElem?_of_mem hx;have h:=b ⟨x.1,x.2,0+j⟩ (xo (i:=j) (by rw[JO,n];rfl));exact h
 rw[JO]at b;cases BV:l[j]? with
 |none=>rw[BV]at b;cases b
 |some x=>
  rw[BV]at b;injection b with b;subst b;exact .inr ⟨j,x,by rw[c,zT],BV,h⟩
section
variable {P:Program} {w:World} {g c:Nat} {T K E:TypeId} {d:TypeDesc} {k:Value} {es:List MapEntry}
def iV (w:World)(g:Nat)(l:List (Value×Value)):Prop:=w.heap[g]?=some (.map (mE l 0).toArray l.length)
theorem iV.lt {l:List (Value×Value)}(h:iV w g l):g<w.heap.size:=y9 h
theorem EM {l:List (Value×Value)}(e:iV w g l)(c:P.underlying T=some (.map K E))(b:P.underlying K=some d)(i:MapKept.IsKey d k){j:Nat}{v:Value}(h:Instr.findNow d k (mE l 0) 0=some (some (j,v))):
 (Instr.lookup T (.map (some g)) k true).run P w= .ok (.tuple #[v,.bool true]) w:=by
 simp[Instr.lookup,Zb c,xU e,Zg b i,Zp b h,Result.andThen]
theorem JQ {l:List (Value×Value)}(e:iV w g l)(c:P.underlying T=some (.map K E))(b:P.underlying K=some d)(i:MapKept.IsKey d k)(h:Instr.findNow d k (mE l 0) 0=some none){z:Value}(hz:(zeroValue E).run P w= .ok z w):
 (Instr.lookup T (.map (some g)) k true).run P w= .ok (.tuple #[z,.bool false]) w:=by
 simp[Instr.lookup,Zb c,xU e,Zg b i,Zp b h,Result.andThen,hz]
def nW (w:World)(g:Nat)(l:List (Value×Value))(k v:Value):World:={w with heap:=w.heap.setIfInBounds g (.map (mE (l++ [(k,v)]) 0).toArray (l.length+1))}
theorem JR {l:List (Value×Value)}(b:iV w g l)(e:P.underlying T=some (.map K E))(c:P.underlying K=some d)(j:MapKept.IsKey d k)(h:Instr.findNow d k (mE l 0) 0=some none)(v:Value):
 (Instr.mapUpdate T (.map (some g)) k v).run P w= .ok () (nW w g l k v):=by
 have i:(mE l 0).toArray.push ⟨k,v,l.length⟩=(mE (l++ [(k,v)]) 0).toArray:=by rw[Bz];simp[mE]
 simp[Instr.mapUpdate,Zb e,xU b,Zg c j,Zp c h,Result.andThen,MapKept.run_setObj_map _ b];unfold nW;rw[<-i];simp
theorem sq {l:List (Value×Value)}(b:iV w g l)(k v:Value):iV (nW w g l k v) g (l++ [(k,v)]):=by
 unfold iV nW;simp only[zp,yF];exact(MapKept.heap_set b).1
theorem uM (w:World)(g:Nat)(l:List (Value×Value))(k v:Value):ae [g] w (nW w g l k v):=
 ⟨rfl,rfl,rfl,by simp[nW],fun j _ b=>by
  have c:g≠j:=fun e=>b (by simp[e])
  show(w.heap.setIfInBounds g _)[j]?=_
  simp[c]⟩
theorem iV.only {l:List (Value×Value)}{L:List Nat}{w':World}(h:iV w g l)(c:ae L w w')(b:g∉L):iV w' g l:=(c.block g h.lt b).trans h
theorem iV.below {l:List (Value×Value)}{B:Nat}{w':World}(h:iV w g l)(b:Below B w w')(c:g<B):iV w' g l:=(b.block g c).trans h
theorem iV.new (w:World):iV (w.alloc (.map #[] 0)) w.heap.size []:=yW w _
end
abbrev bV :=bA×Value
def wV (l:List bV):List (Value×Value):=l.map fun r=>(.string r.1.name,r.2)
def wW (l:List bV):List (Value×Value):=l.map fun r=>(.int .u64 r.1.id,r.2)
def aJ (l:List bV):List bA:=l.map (·.1)
theorem SI (l:List bV):∀x∈wV l,MapKept.IsKey .string x.1:=by
 intro x hx;obtain⟨r,_,rfl⟩:=xL.1 hx;simp[MapKept.IsKey]
theorem SJ (l:List bV):∀x∈wW l,MapKept.IsKey (.int .u64) x.1:=by
 intro x hx;obtain⟨r,_,rfl⟩:=xL.1 hx;simp[MapKept.IsKey]
theorem iW {l:List bA}{p:bA->Bool}(h:∀e∈l,p e=false):l.find? p=none:=List.find?_eq_none.2 fun e b=>by simp[h e b]
theorem iX {l:List bA}{p:bA->Bool}{j:Nat}{e:bA}(b:l[j]?=some e)(c:p e=true)(hu:∀i (x:bA),l[i]?=some x->p x=true->i=j):l.find? p=some e:=by
 cases h:l.find? p with
 |none=>exact absurd c (List.find?_eq_none.1 h e (xo b))
 |some x=>
  have hx:=Yv h;obtain⟨i,hi⟩:=List.getElem?_of_mem (Zn h);have:=hu i x hi hx;subst this;rw[hi]at b;exact b
theorem BA {l:List bA}{i:Nat}{x:bA}(h:l[i]?=some x):∃hi:i<l.length,l[i]=x:=by
 obtain⟨hi,e⟩:=Zo.1 h;exact⟨hi,e⟩
theorem BB {c:aR}{l:List bV}(h:cM c (aJ l))(nm:ByteArray):
 (Instr.findNow .string (.string nm) (mE (wV l) 0) 0=some none/\fp (aJ l) nm=none)\/∃(j:Nat) (r:bV),Instr.findNow .string (.string nm) (mE (wV l) 0) 0=some (some (j,r.2))/\l[j]?=some r/\r.1.name=nm/\fp (aJ l) nm=some r.1:=by
 rcases JP (d:= .string) (k:= .string nm) (by simp[MapKept.IsKey]) (wV l) (SI l)with⟨n,b⟩|⟨j,x,n,b,z⟩
 ·refine .inl ⟨n,iW fun e u=>zz fun m=> ?_⟩;obtain⟨r,s,rfl⟩:=xL.1 u;exact b (.string r.1.name,r.2) (xL.2 ⟨r,s,rfl⟩) (by rw[m])
 unfold wV at b;rw[xX]at b;cases hl:l[j]? with
 |none=>rw[hl]at b;cases b
 |some r=>
  rw[hl]at b;injection b with b;subst b;have m:r.1.name=nm:=by injection z
  have o:(aJ l)[j]?=some r.1:=by unfold aJ;rw[xX,hl];rfl
  refine .inr ⟨j,r,n,hl,m,iX o (zH m) fun i x hi hx=> ?_⟩;obtain⟨y,w⟩:=BA hi;obtain⟨p,q⟩:=BA o;exact h.names i j y p (by rw[w,q,m];exact yo hx)
theorem JS {c:aR}{l:List bV}(h:cM c (aJ l))(id:Nat)(p:bA->Bool)(o:∀e,p e=decide (e.id=id)):
 (Instr.findNow (.int .u64) (.int .u64 id) (mE (wW l) 0) 0=some none/\(aJ l).find? p=none)\/∃(j:Nat) (r:bV),Instr.findNow (.int .u64) (.int .u64 id) (mE (wW l) 0) 0=some (some (j,r.2))/\l[j]?=some r/\r.1.id=id/\(aJ l).find? p=some r.1:=by
 rcases JP (d:= .int .u64) (k:= .int .u64 id) (by simp[MapKept.IsKey]) (wW l) (SJ l)with⟨n,b⟩|⟨j,x,n,b,s⟩
 ·refine .inl ⟨n,iW fun e z=>by
   rw[o];refine zz fun m=> ?_
   obtain⟨r,y,rfl⟩:=xL.1 z;exact b (.int .u64 r.1.id,r.2) (xL.2 ⟨r,y,rfl⟩) (by rw[m])⟩
 unfold wW at b;rw[xX]at b;cases hl:l[j]? with
 |none=>rw[hl]at b;cases b
 |some r=>
  rw[hl]at b;injection b with b;subst b;have m:r.1.id=id:=by injection s with _ s;omega
  have q:(aJ l)[j]?=some r.1:=by unfold aJ;rw[xX,hl];rfl
  refine .inr ⟨j,r,n,hl,m,iX q (by rw[o];exact zH m) fun i x hi hx=> ?_⟩;obtain⟨B,A⟩:=BA hi;obtain⟨u,w⟩:=BA q;rw[o]at hx;exact h.ids i j B u (by rw[A,w,m];exact yo hx)
theorem CB {c:aR}(h:c.fm=1)(l:List bA)(f:Fr):fG c l f=if f.id=0 then fp l f.nm else none:=by
 unfold fG fp;by_cases b:f.id=0
 ·rw[zl b];congr 1
  funext e
  simp[lW,h,b,eq_comm]
 rw[zj b];exact iW fun e _=>by simp[lW,h,b]
theorem Hi {c:aR}(h:c.fm≠1)(l:List bA)(f:Fr)(b:f.nm.size≠0):fG c l f=none:=iW fun e _=>by simp[lW,h,b]
theorem SK {c:aR}(h:c.fm≠1)(f:Fr)(b:f.nm.size=0)(e:bA):lW c f e=decide (e.id=f.id):=by simp[lW,h,b,eq_comm]
theorem EN {l:List bA}{p:bA->Bool}(h:l.find? p=none):l.any p=false:=xY.2 fun e b=>by simpa using List.find?_eq_none.1 h e b
theorem EO {l:List bA}{p:bA->Bool}{e:bA}(h:l.find? p=some e):l.any p=true:=Zk.2 ⟨e,Zn h,Yv h⟩
theorem jX {l:List bA}{nm:ByteArray}{e:bA}(h:fp l nm=some e):e∈l/\e.name=nm:=⟨Zn h,yo (Yv (p:=fun x:bA=>decide (x.name=nm)) h)⟩
theorem CC {c:aR}{l:List bA}{f:Fr}{e:bA}(h:fG c l f=some e):e∈l/\lW c f e=true:=⟨Zn h,Yv h⟩
theorem LJ {c:aR}{l:List bA}(h:cM c l){e:bA}(d:e∈l):fp l e.name=some e:=by
 obtain⟨j,b,rfl⟩:=yZ d;refine iX (zB b) (zH rfl) fun i x hi hx=> ?_
 obtain⟨m,k⟩:=BA hi;exact h.names i j m b (by rw[k];exact yo hx)
theorem uN {c:aR}{l:List bA}(h:cM c l){f:Fr}{e:bA}(q:e∈l)(b:lW c f e=true):fG c l f=some e:=by
 obtain⟨j,n,rfl⟩:=yZ q;refine iX (zB n) b fun i x hi hx=> ?_
 obtain⟨p,o⟩:=BA hi;by_cases d:c.fm=1
 ·have m:f.nm=x.name:=by simp[lW,d]at hx;exact hx.1
  have k:f.nm=l[j].name:=by simp[lW,d]at b;exact b.1
  exact h.names i j p n (by rw[o,<-m,k])
 have m:f.id=x.id:=by simp[lW,d]at hx;exact hx.1
 have k:f.id=l[j].id:=by simp[lW,d]at b;exact b.1
 exact h.ids i j p n (by rw[o,<-m,k])
theorem wX {s:ByteArray}(h:s.size=0):s=ByteArray.empty:=aL (by
 have:s.data.toList.length=0:=by rw[aa];exact h
 rw[zw this];rfl)
theorem LK {c:aR}(h:c.fm=1){f:Fr}{e:bA}(d:lW c f e=true):f=⟨0,e.name,f.body⟩:=by
 obtain⟨i,n,b⟩:=f;simp[lW,h]at d;obtain⟨rfl,rfl⟩:=d;rfl
theorem Hj {c:aR}(h:c.fm≠1){f:Fr}{e:bA}(j:lW c f e=true):f=⟨e.id,ByteArray.empty,f.body⟩:=by
 obtain⟨i,n,b⟩:=f;simp[lW,h]at j;obtain⟨rfl,d⟩:=j;rw[show n=ByteArray.empty from by first|exact d|exact wX d]
theorem uO (x:It):(⟨x.fA.toArray⟩:ByteArray).data.toList=x.fA:=by simp
theorem nX {s:ByteArray}{l:List UInt8}(h:l=s.data.toList):(⟨l.toArray⟩:ByteArray)=s:=aL (by simp[h])
theorem qY {c:aR}(b:c.fm≠1){t:Ty}{x:It}(h:(bQ c t x).2=0)(hz:x.fA.length<18446744073709551616):dr c t (bQ c t x).1=(0,x)/\(bQ c t x).1=⟨x.fA.toArray⟩:=by
 unfold bQ at h⊢;rw[zj b]at h⊢;simp only at h⊢;rw[zl h];refine⟨?_,rfl⟩;obtain⟨d,a2⟩:=Cz t x c.de c.it h ⟨x.fA.toArray⟩ (uO x) (by rw[<-aa,uO];exact hz);unfold dr;rw[zj b,d];unfold pJ;rw[zj (by simp[d]),a2]
theorem LM {c:aR}{t:Ty}{s:ByteArray}(h:(dr c t s).1=0):bQ c t (dr c t s).2=(s,0):=by
 unfold dr at h⊢;by_cases b:c.fm=1
 ·rw[zl b]at h⊢;obtain⟨d,a2⟩:=Hf t s c.it h;unfold bQ;rw[zl b];unfold mH;rw[zl d,nX a2]
 rw[zj b]at h⊢;simp only at h⊢;obtain⟨d,a2⟩:=CA t s c.de c.it h;have e:pJ t s c.de c.it=iG c.de c.it s:=by unfold pJ;rw[zj (by simp[h])]
 rw[e];unfold bQ;rw[zj b,zl d,d,nX a2]
theorem mI {c:aR}{l:List bA}{nm:ByteArray}{x:It}(h:(bD c l nm x).2=0):∃e,fp l nm=some e/\(bQ c e.shape x).2=0/\(bD c l nm x).1=if c.fm=1 then⟨0,e.name,(bQ c e.shape x).1⟩else⟨e.id,ByteArray.empty,(bQ c e.shape x).1⟩:=by
 unfold bD at h⊢;cases hb:fp l nm with
 |none=>rw[hb]at h;cases h
 |some e=>
  rw[hb]at h;simp only at h⊢;by_cases b:(bQ c e.shape x).2≠0
  ·rw[zl b]at h;exact absurd h b
  rw[zj b]at h⊢;exact⟨e,rfl,zJ.1 b,by split<;>rfl⟩
theorem Ho {c:aR}{l:List bA}(d:cM c l)(b:c.fm≠1){nm:ByteArray}{x:It}(h:(bD c l nm x).2=0)(hz:x.fA.length<18446744073709551616):eO c l (bD c l nm x).1=(0,⟨nm,x⟩):=by
 obtain⟨e,k,n,m⟩:=mI h;obtain⟨i,rfl⟩:=jX k;obtain⟨j,_⟩:=qY b n hz;rw[m,zj b];unfold eO;rw[uN d i (by simp[lW,b])];simp only[j,xO]
theorem Hp {c:aR}{l:List bA}(j:cM c l){f:Fr}(h:(eO c l f).1=0):bD c l (eO c l f).2.name (eO c l f).2.x=(f,0):=by
 unfold eO at h⊢;cases hb:fG c l f with
 |none=>rw[hb]at h;cases h
 |some e=>
  rw[hb]at h;simp only at h⊢;by_cases d:(dr c e.shape f.body).1=0
  ·rw[zl d]at h⊢;obtain⟨k,i⟩:=CC hb;have m:=LM d;simp only;unfold bD;rw[LJ j k];simp only[m];rw[zj (by simp)];by_cases b:c.fm=1
   ·rw[zl b,<-LK b i]
   rw[zj b,<-Hj b i]
  rw[zj d]at h;split at h
  ·cases h
  exact absurd h d
theorem LN (c:aR)(l:List bA)(f:Fr):(eO c l f).1≠2:=by
 unfold eO;split
 ·simp
 split
 ·simp
 split
 ·simp
 assumption
theorem BC {c:aR}{l:List bA}{nm:ByteArray}{x:It}(h:(bD c l nm x).2≠0):(bD c l nm x).1=nM:=by
 unfold bD at h⊢;split
 ·rfl
 rename_i e d
 rw[d]at h;simp only at h⊢;by_cases b:(bQ c e.shape x).2≠0
 ·rw[zl b]
 rw[zj b]at h;split at h<;>exact absurd rfl h
theorem JT {M:Int}{t:Ty}:∀(b:List Ty) (s:List It) (m i n:Nat),(∀j (h:j<b.length),t.at (i+j)=b[j])->m<=s.length->s.length<=b.length->
 (∀j (c:j<s.length) (k:j<b.length),∀(n:Nat) (q:List UInt8),(n:Int)+(s[j]).count<=M->(b[j]).rd M n ((s[j]).lay (b[j])++q)=⟨0,s[j],n+(s[j]).count,q⟩)->(n:Int)+aG s<=M->
 (nz M b m n (cm s t i)).e=0/\(nz M b m n (cm s t i)).q= []
 | [],s,m,i,n,_,_,hs,_,_=>by
  obtain rfl:s= []:=zw (by simpa using hs);simp[nz,cm]
 |a::b,[],m,i,n,_,hm,_,_,_=>by
  have l:m=0:=by simpa using hm
  subst l;simp[nz,cm]
 |a::b,x::xs,m,i,n,ha,hm,hs,hf,hM=>by
  simp only[aG]at hM;have d:=ha 0 (by simp);rw[xj]at d;have hx:=hf 0 (by simp) (by simp) n (cm xs t (i+1)) (by simp only[yY];omega);simp only[yY]at hx d;rw[cm,d,nz,hx];by_cases e:m=0/\x.lay a++cm xs t (i+1)= []
  ·rw[zl e];exact⟨rfl,e.2⟩
  rw[zj e];simp only[ne_eq,xf,Zq];exact JT b xs (m-1) (i+1) (n+x.count) (fun j c=>by have:=ha (j+1) (by simpa using c);simpa[show i+(j+1)=i+1+j from by omega]using this) (by simp at hm;omega) (by simpa using hs)
   (fun j c k=>by have:=hf (j+1) (by simpa using c) (by simpa using k);simpa using this) (by omega)
theorem VS (M:Int)(B:M<=1024)(x:It)(t:Ty)(n:Nat)(u:t.right=true)(c:bX t.sub=true)(hi:x.cX t=true)(hx:x.right=true)(o:(n:Int)+x.count<=M):(t.rd M n (x.lay t)).e=0/\(t.rd M n (x.lay t)).q= []:=by
 by_cases i:t.kind=5
 ·obtain⟨N,b,s⟩:=x;obtain⟨k,z,l,m⟩:=t;simp only[Ty.Jw]at i;subst i;obtain⟨S,K⟩:=jr u;obtain⟨O,G⟩:=mz hx;have F:=uI G;have J:¬M<=(n:Int):=by simp only[It.count]at o;omega
  simp only[It.cX,zF]at hi;obtain⟨e,L⟩:=hi;have r:=kM s _ 0 L;simp only[zT]at r;simp only[Ty.gu]at c;replace e:=pH e;obtain⟨rfl,I,R⟩:=e;have A:∀j (h:j<l.length),(Ty.mk 5 z l m).at (0+j)=l[j]:=fun j h=>by unfold Ty.at;simp[h]
  simp only[It.count]at o;rw[mG,tD J];exact JT (M:=M) (t:= .mk 5 z l m) l s ((l.length:Int)-m).toNat 0 (n+1) A (by omega) I (fun j y d n q H=>by
   have E:=zM y;have p:=r j y;have w:=A j d;rw[zT]at w;rw[w]at p;have C:=EF c j d;have D:=dI K j d;generalize l[j]=a at*;obtain⟨U,W,al,at_⟩:=a;exact Oy M B _ _ n q D (lp C).2 (mF C p q) p (F _ E) H) (by omega)
 have:=Oy M B x t n [] u c (fun h=>absurd h i) hi hx o;rw[xp]at this;rw[this];exact⟨rfl,rfl⟩
theorem LO (t:Ty)(x:It)(M:Int)(h:iF t x M=0)(s:ByteArray)(m:s.data.toList=x.lay t):(ju t s M).1=0:=by
 obtain⟨c,n,q⟩:=Bt h;obtain⟨_,d,_,_,k⟩:=jv c;obtain⟨_,i,l⟩:=qV n;obtain⟨j,p,o⟩:=so i;have b:=VS (min M 1024) (by omega) x t 0 d k l j (by omega);rw[<-m]at b;change(nO t s M).e=0/\(nO t s M).q= []at b
 have e:cY t s M=(0,(nO t s M).x,s.size):=by unfold cY;rw[zj (by simp[c]),zj (by simp[b.1]),b.2];simp
 unfold ju;rw[e];simp
def aY (c:aR)(l:List bA)(s:ByteArray):Int×Ms×Nat×Nat:=
 if(aW c s).1≠0 then((aW c s).1,qX,(aW c s).2.2.1,(aW c s).2.2.2)else((eO c l (aW c s).2.1).1,(eO c l (aW c s).2.1).2,(aW c s).2.2.1,(aW c s).2.2.2)
theorem JU {c:aR}{l:List bA}{s:ByteArray}(h:(aW c s).1≠0):aY c l s=((aW c s).1,qX,(aW c s).2.2.1,(aW c s).2.2.2):=by unfold aY;rw[zl h]
theorem uP {c:aR}{l:List bA}{s:ByteArray}(h:(aW c s).1=0):aY c l s=((eO c l (aW c s).2.1).1,(eO c l (aW c s).2.1).2,(aW c s).2.2.1,(aW c s).2.2.2):=by unfold aY;rw[zj (by simp[h])]
theorem jw {c:aR}{l:List bA}{s:ByteArray}:(aY c l s).1=2↔(aW c s).1=2:=by
 by_cases h:(aW c s).1=0
 ·rw[uP h,h];exact⟨fun b=>absurd b (LN _ _ _),(by intro h;cases h)⟩
 rw[JU h]
theorem LP {c:aR}{l:List bA}{s:ByteArray}(h:(aY c l s).1=0):(aW c s).1=0/\(eO c l (aW c s).2.1).1=0:=by
 by_cases b:(aW c s).1=0
 ·rw[uP b]at h;exact⟨b,h⟩
 rw[JU b]at h;exact absurd h b
theorem lu (c:aR)(l:List bA)(s:ByteArray):(aY c l s).2.2=(aW c s).2.2:=by unfold aY;split<;>rfl
theorem gF (c:aR)(l:List bA):wO (aY c l):=by
 have b:=uy c;refine⟨fun s h=> ?_,fun s t h=> ?_,fun s h=> ?_⟩
 ·have:=b.pos s (LP h).1;rw[lu];exact this
 ·have e:=b.ext s t (fun d=>h (jw.2 d));unfold aY;rw[e]
 rw[lu];exact b.short s (jw.1 h)
theorem LQ {c:aR}(b:c.right=true)(l:List bA):(aY c l ByteArray.empty).1=2:=jw.2 (G2 b)
def cT (c:aR)(l:List bA)(nm:ByteArray)(x:It):ByteArray×Int:=if(bD c l nm x).2≠0 then(ByteArray.empty,(bD c l nm x).2)else fM c (bD c l nm x).1
theorem OJ {c:aR}{l:List bA}{nm:ByteArray}{x:It}(h:(cT c l nm x).2=0):(bD c l nm x).2=0/\cT c l nm x=fM c (bD c l nm x).1:=by
 unfold cT at h⊢;by_cases b:(bD c l nm x).2≠0
 ·rw[zl b]at h;exact absurd h b
 rw[zj b];exact⟨zJ.1 b,rfl⟩
theorem OK {c:aR}{f:Fr}(h:(fM c f).2≠0):(fM c f).1=ByteArray.empty:=by
 unfold fM at h⊢;split
 ·split
  ·rfl
  split
  ·rfl
  rename_i b e d
  rw[zl b,zj e,zj d]at h;exact absurd rfl h
 rfl
def SL (l:List bA):Prop:=∀e∈l,e.id<18446744073709551616
theorem OL {c:aR}{l:List bA}(hid:SL l){nm:ByteArray}{x:It}(h:(bD c l nm x).2=0):(bD c l nm x).1.id<18446744073709551616:=by
 obtain⟨e,b,_,d⟩:=mI h;rw[d];split
 ·simp
 exact hid e (jX b).1
theorem SM {c:aR}{l:List bA}(j:cM c l){nm:ByteArray}{x:It}(h:(bD c l nm x).2=0)(hz:x.fA.length<18446744073709551616):
 ∃y,eO c l (bD c l nm x).1=(0,⟨nm,y⟩)/\(c.fm≠1->y=x)/\bD c l nm y=((bD c l nm x).1,0):=by
 by_cases b:c.fm=1
 ·obtain⟨e,p,d,k⟩:=mI h;obtain⟨o,rfl⟩:=jX p;rw[zl b]at k;have n:fG c l (bD c l e.name x).1=some e:=uN j o (by rw[k];simp[lW,b]);have m:(dr c e.shape (bQ c e.shape x).1).1=0:=by
   unfold bQ at d⊢;rw[zl b]at d⊢;unfold dr;rw[zl b];unfold mH at d⊢;by_cases i:iF e.shape x c.it=0
   ·rw[zl i];exact LO e.shape x c.it i _ (by simp)
   rw[zj i]at d;exact absurd d i
  have hd:eO c l (bD c l e.name x).1=(0,⟨e.name,(dr c e.shape (bQ c e.shape x).1).2⟩):=by
   unfold eO;rw[n];simp only[k,m,xO]
  refine⟨_,hd,fun h=>absurd b h, ?_⟩;have:=Hp j (f:=(bD c l e.name x).1) (by rw[hd]);rw[hd]at this;exact this
 have hd:=Ho j b h hz;refine⟨x,hd,fun _=>rfl,Z2 rfl h⟩
theorem SN {c:aR}{l:List bA}(d:c.right=true)(n:cM c l)(hid:SL l){nm:ByteArray}{x:It}(h:(cT c l nm x).2=0)(hz:x.fA.length<18446744073709551616):
 ∃y k,(∀T,aY c l ((cT c l nm x).1++T)=(0,⟨nm,y⟩,(cT c l nm x).1.size,k))/\(c.fm≠1->y=x)/\cT c l nm y=cT c l nm x:=by
 obtain⟨j,m⟩:=OJ h;obtain⟨y,hd,p,o⟩:=SM n j hz;have r:fM c (bD c l nm x).1=((cT c l nm x).1,0):=by rw[<-m];exact Z2 rfl h
 have q:=fun T=>(Ok (OL hid j) r T).1
 obtain⟨k,b⟩:=q ByteArray.empty;have i:∀T,aW c ((cT c l nm x).1++T)=(0,(bD c l nm x).1,(cT c l nm x).1.size,k):=fun T=>by
  have e:=(uy c).ext (cT c l nm x).1 T (by rw[bR d];rw[kH]at b;rw[b];simp);rw[e,bR d];rw[kH]at b;exact b
 refine⟨y,k,fun T=> ?_,p, ?_⟩
 ·rw[uP (by rw[i]),i,hd]
 rw[m];unfold cT;rw[o,zj (by simp)]
theorem OM {c:aR}{l:List bA}(b:c.right=true)(e:cM c l)(hid:SL l){nm:ByteArray}{x:It}(h:(cT c l nm x).2=0)(hz:x.fA.length<18446744073709551616):
 ∃y k,(∀T,split (aY c l) ((cT c l nm x).1++T)=(split (aY c l) T).cons ⟨nm,y⟩ k)/\split (aY c l) (cT c l nm x).1=([⟨nm,y⟩],ByteArray.empty,k,0)/\(c.fm≠1->y=x)/\cT c l nm y=cT c l nm x:=by
 obtain⟨y,k,d,j,i⟩:=SN b e hid h hz;have key:∀T,split (aY c l) ((cT c l nm x).1++T)=(split (aY c l) T).cons ⟨nm,y⟩ k:=fun T=>by
  rw[mh (gF c l) (by rw[d]),d];simp only;rw[Sj _ _ _ (zf _)];have:(cT c l nm x).1.extract (cT c l nm x).1.size (cT c l nm x).1.size++T=T:=by
   apply aL;rw[bn,aq,dh,zU (by rw[aa];exact zf _),yE]
  rw[this]
 refine⟨y,k,key, ?_,j,i⟩;have:=key ByteArray.empty;rw[kH,fU (gF c l) (LQ b l)]at this;rw[this];rfl
theorem BD (c:aR)(s:ByteArray):(aW c s).2.2.2<=65536:=by
 unfold aW;by_cases b:c.right=true
 ·rw[zl b];have:=(c.cQ).1 b;unfold bo;split
  ·exact ym _
  split
  ·exact ym _
  show(aS c.fr c.un s).2.2.2.2<=65536
  rw[bI];split
  ·exact ym _
  split
  ·exact ym _
  split
  ·exact ym _
  rename_i h
  split
  ·show(aB (ai c.fr s).2.2.1).1<=65536;omega
  show(aB (ai c.fr s).2.2.1).1<=65536;omega
 rw[zj b];exact ym _
theorem Hr (c:aR)(s:ByteArray)(h:s.size<=1099511627776):(aW c s).2.1.body.size<=1099511627776:=by
 by_cases b:c.right=true
 ·have d:=(c.cQ).1 b;rw[bR b];have:=(LA c s).2;omega
 have e:aW c s=(1,nM,0,0):=by unfold aW;rw[zj b]
 rw[e];exact ym _
structure EP {α:Type}(nx:Nx α)(x:jb)(s:ByteArray)(l:List α):Prop where
 fault:x.fault=(split nx s).2.2.2
 told:l=(split nx s).1
 buf:x.fault=0->x.buf=(split nx s).2.1
theorem EP.new {c:Type}{b:Nx c}(h:wO b)(d:(b ByteArray.empty).1=2):EP b jb.new ByteArray.empty ([]:List c):=by
 have:=fU h d;exact⟨by rw[this];rfl,by rw[this],fun _=>by rw[this];rfl⟩
theorem EP.same {c:Type}{d:Nx c}{x y:jb}{s:ByteArray}{l m:List c}(hx:EP d x s l)(b:EP d y s m):l=m/\x.fault=y.fault/\(x.fault=0->x.buf=y.buf):=
 ⟨hx.told.trans b.told.symm,hx.fault.trans b.fault.symm,fun h=>(hx.buf h).trans (b.buf (by rw[b.fault,<-hx.fault];exact h)).symm⟩
theorem ON (c:aR)(l:List bA)(s:ByteArray):(split (aY c l) s).1.length<=s.size:=by
 induction s using qM (gF c l)with
 |stop s h0=>rw[kD (gF c l),zj h0];simp
 |go s h0 ih=>
  obtain⟨b,d⟩:=(gF c l).pos s h0;have hz:(s.extract (aY c l s).2.2.1 s.size).size=s.size-(aY c l s).2.2.1:=an _ _ _ (zf _);rw[mh (gF c l) h0];show(_::_).length<=_
  simp only[zD];omega
theorem Hs (c:aR)(l:List bA)(s:ByteArray):(split (aY c l) s).2.1.size<=s.size:=by
 obtain⟨k,b,e⟩:=sU (gF c l) s;rw[e,an _ _ _ (zf _)];omega
theorem VT (c:aR)(l:List bA)(s:ByteArray):(split (aY c l) s).2.2.1<=65536*(s.size+1):=by
 have h:=gF c l;have b:∀s,(aY c l s).2.2.2<=65536:=fun s=>by rw[lu];exact BD c s
 induction s using qM h with
 |stop s h0=>
  rw[kD h,zj h0];have:=b s;show(aY c l s).2.2.2<=_
  omega
 |go s h0 ih=>
  rw[mh h h0];obtain⟨d,e⟩:=h.pos s h0;have i:=np s _ d e;have:=b s;show(aY c l s).2.2.2+(split (aY c l) (s.extract (aY c l s).2.2.1 s.size)).2.2.1<=_
  have:65536*((s.extract (aY c l s).2.2.1 s.size).size+1)<=65536*s.size:=Nat.mul_le_mul_left _ (by omega);omega
def fq (L:List UInt8)(a b:Nat):Prop:=L[a]?=L[b]?/\L[a+1]?=L[b+1]?/\L[a+2]?=L[b+2]?/\L[a+3]?=L[b+3]?
instance (L :List UInt8)(a b:Nat):Decidable (fq L a b):=by unfold fq;infer_instance
theorem fq.symm {L:List UInt8}{a b:Nat}(h:fq L a b):fq L b a:=⟨h.1.symm,h.2.1.symm,h.2.2.1.symm,h.2.2.2.symm⟩
theorem fq.trans {L:List UInt8}{a b c:Nat}(h:fq L a b)(k:fq L b c):fq L a c:=⟨h.1.trans k.1,h.2.1.trans k.2.1,h.2.2.1.trans k.2.2.1,h.2.2.2.trans k.2.2.2⟩
def jx (L:List UInt8)(a:Nat):Nat->Option Nat
 |0=>none
 |n+1=>if n+4<=L.length/\fq L n a then some n else jx L a n
theorem mt4 (L:List UInt8)(j i:Nat)(h:j<i)(hi:i<=L.length):4<=mt L j i 64↔i+4<=L.length/\fq L j i:=by
 constructor
 ·intro d;have b:=(Bh L 64 j i).2 hi;exact⟨by omega,Ei L 64 j i 0 (by omega),Ei L 64 j i 1 (by omega),Ei L 64 j i 2 (by omega),Ei L 64 j i 3 (by omega)⟩
 rintro⟨b,g0,g1,g2,g3⟩;have c:mt L j i 64=mt L (j+4) (i+4) 60+4:=by
  rw[mt,zl ⟨by omega,g0⟩,mt,zl ⟨by omega,g1⟩,mt,zl ⟨by omega,g2⟩,mt,zl ⟨by omega,g3⟩]
 omega
theorem uQ (L:List UInt8)(i:Nat)(hi:i<=L.length)(h:¬i+4<=L.length):∀k,k<=i->GX L i k=none:=by
 intro k;induction k with
 |zero=>intro _;rfl
 |succ k ih=>
  intro c;rw[GX,zj (by rw[mt4 L k i (by omega) hi];exact fun b=>h b.1)];exact ih (by omega)
theorem OO (L:List UInt8)(i:Nat)(hi:i+4<=L.length):∀k,k<=i->GX L i k=jx L i k:=by
 intro k;induction k with
 |zero=>intro _;rfl
 |succ k ih=>
  intro c;rw[GX,jx,ih (by omega)];by_cases h:fq L k i
  ·rw[zl ((mt4 L k i (by omega) (by omega)).2 ⟨hi,h⟩),zl ⟨by omega,h⟩]
  rw[zj (fun b=>h ((mt4 L k i (by omega) (by omega)).1 b).2),zj (fun b=>h b.2)]
theorem OP (L:List UInt8)(a:Nat):∀n j,jx L a n=some j->j<n:=by
 intro n;induction n with
 |zero=>intro j h;simp[jx]at h
 |succ n ih=>
  intro j h;rw[jx]at h;split at h
  ·injection h with h;omega
  have:=ih j h;omega
theorem Hu (L:List UInt8)(a n:Nat)(h:n+4<=L.length)(b:fq L n a):jx L a (n+1)=some n:=by rw[jx,zl ⟨h,b⟩]
theorem sr (L:List UInt8)(a n:Nat)(h:¬(n+4<=L.length/\fq L n a)):jx L a (n+1)=jx L a n:=by rw[jx,zj h]
