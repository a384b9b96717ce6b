/- Layouts: put, next, get: plain laws. No program in sight. -/
import Derived.Test.YtdbmifjankgfpaaGreatDoorKA4
import Derived.Deep.OwnRows
set_option linter.all false
namespace Go.Proofs.YtdbmifjankgfpaaGreatDoor
def zu:=@decide_eq_false
def yS:=@List.mem_singleton
def xf:=@List.mem_of_getElem?
def xP:=@MapKept.run_getObj_map
def xT:=@run_underlying
def xY:=@MapKept.run_checkKey
def Zb:=@List.mem_of_find?_eq_some
def Zc:=@MapKept.run_findKey
def Ze:=@List.getElem_append_left
def ZD:=@List.any_eq_true
def ZK:=@List.mem_append
def Z5:=@List.any_eq_false
def Ym:=@List.find?_some
def jO (t:Ty)(x:It)(M:Int):Int:=if t.flat=false then 1 else if eO t x≠0 then eO t x else if M<x.count then 4 else 0
def oS (t:Ty)(x:It)(M:Int):ByteArray×Int:=if jO t x M=0 then(⟨(x.lay t).toArray⟩,0)else(⟨#[]⟩,jO t x M)
def oK (t:Ty)(s:ByteArray)(M:Int):SO:=t.rd (min M 1024) 0 s.data.toList
def dk (t:Ty)(s:ByteArray)(M:Int):Int×It×Nat:=if t.flat=false then(1,jv,0)else if(oK t s M).e≠0 then((oK t s M).e,jv,0)else(0,(oK t s M).x,s.size-(oK t s M).q.length)
def jP (t:Ty)(s:ByteArray)(M:Int):Int×It:=if(dk t s M).1≠0 then((dk t s M).1,jv)else if(dk t s M).2.2<s.size then(3,jv)else(0,(dk t s M).2.1)
mutual
def Ty.low :Ty->Int
 | .mk k z l _=>if k=1\/k=2 then z else if k=3\/k=4 then 1 else ace l
def ace :List Ty->Int
 | []=>0
 |x::xs=>x.low+ace xs
end
theorem lY {t:Ty}(h:t.flat=true):t.may=true/\t.right=true/\t.count<=64/\t.deep<=8/\ca t.sub=true:=by
 simp only[Ty.flat,zx]at h;obtain⟨c,b,d⟩:=O4 h.1;exact⟨h.1,d,c,b,h.2⟩
theorem B9 {t:Ty}{x:It}(h:eO t x=0):t.may=true/\x.may=true/\x.dj t=true:=by
 unfold eO at h;cases h1:t.may<;>cases h2:x.may<;>cases h3:x.dj t<;>simp_all
theorem WW {t:Ty}{x:It}(c:t.may=true)(b:x.may=true)(d:x.dj t=true):eO t x=0:=by
 unfold eO;simp[c,b,d]
theorem sY {x:It}(h:x.may=true):x.right=true/\x.deep<=16/\x.count<=1024:=by
 simpa only[It.may,zx,zY,and_assoc]using h
theorem Pp {x:It}(c:x.right=true)(b:x.deep<=16)(d:x.count<=1024):x.may=true:=by
 simp only[It.may,zx,zY];exact⟨⟨c,b⟩,d⟩
theorem MB {t:Ty}{x:It}{M:Int}(h:jO t x M=0):t.flat=true/\eO t x=0/\(x.count:Int)<=M:=by
 unfold jO at h;cases h1:t.flat with
 |false=>rw[zi h1]at h;cases h
 |true=>
  rw[zh (by simp[h1])]at h;by_cases b:eO t x≠0
  ·rw[zi b]at h;exact absurd h b
  rw[zh b]at h;by_cases c:M<x.count
  ·rw[zi c]at h;cases h
  exact⟨rfl,zC.1 b,by omega⟩
theorem Fu (t:Ty)(s:ByteArray)(M:Int)(h:(dk t s M).1=0):jO t (dk t s M).2.1 M=0/\(dk t s M).2.2<=s.size/\(dk t s M).2.1.lay t=s.data.toList.take (dk t s M).2.2:=by
 unfold dk at h⊢;cases h1:t.flat with
 |false=>rw[zi h1]at h;cases h
 |true=>
  rw[zh (by simp[h1])]at h⊢;by_cases c:(oK t s M).e≠0
  ·rw[zi c]at h;exact absurd h c
  rw[zh c];obtain⟨i,e,l,m,j⟩:=lY h1;have b:=MA (min M 1024) (by omega) t 0 s.data.toList e (zC.1 c);change TC (min M 1024) t 0 s.data.toList (oK t s M)at b
  generalize oK t s M=R at*;have d:=xi List.length b.lay;rw[zj,aa]at d;have k:=b.many;have n:=b.num;have hd:=b.deep;refine⟨?_,by simp only;omega, ?_⟩
  ·unfold jO;simp only;rw[zh (by simp[h1]),WW i (Pp b.right (by omega) (by omega)) b.dj,zh (by simp),zh (by omega)]
  simp only;rw[b.lay,show s.size-R.q.length=(R.x.lay t).length from by omega,ZJ rfl]
theorem Iz (t:Ty)(s:ByteArray)(M:Int)(h:(jP t s M).1=0):jO t (jP t s M).2 M=0/\(jP t s M).2.lay t=s.data.toList:=by
 unfold jP at h⊢;by_cases b:(dk t s M).1≠0
 ·rw[zi b]at h;exact absurd h b
 rw[zh b]at h⊢;by_cases c:(dk t s M).2.2<s.size
 ·rw[zi c]at h;cases h
 rw[zh c];obtain⟨d,a2,a3⟩:=Fu t s M (zC.1 b);refine⟨d, ?_⟩;rw[a3,zy (by rw[aa];omega)]
def gT (xs:List It):It:= .mk ByteArray.empty true xs
def fin (D M:Int)(s:ByteArray):List It->Nat->List (List It×Nat)->Nat->Nat->Rd
 |acc,en,[],at_,count=>
  if(cR D M (s.extract at_ en) 2 count).e≠0 then Rd.bad (cR D M (s.extract at_ en) 2 count).e
  else⟨gT (acc++(cR D M (s.extract at_ en) 2 count).xs),en,count+(cR D M (s.extract at_ en) 2 count).items,0⟩
 |acc,en,f::rest,at_,count=>
  if(cR D M (s.extract at_ en) (rest.length+3) count).e≠0 then Rd.bad (cR D M (s.extract at_ en) (rest.length+3) count).e
  else fin D M s (f.1++ [gT (acc++(cR D M (s.extract at_ en) (rest.length+3) count).xs)]) f.2 rest en (count+(cR D M (s.extract at_ en) (rest.length+3) count).items)
def MC (D M:Int)(s:ByteArray)(acc:List It)(en:Nat)(rest:List (List It×Nat))(count:Nat)(R:Kx):Rd:=
 if R.e≠0 then Rd.bad R.e
 else match rest with
  | []=>⟨gT (acc++R.xs),en,count+R.items,0⟩
  |f::rest=>fin D M s (f.1++ [gT (acc++R.xs)]) f.2 rest en (count+R.items)
theorem vC (D M:Int)(s:ByteArray)(acc:List It)(b:Nat)(rest:List (List It×Nat))(at_ count:Nat):fin D M s acc b rest at_ count=MC D M s acc b rest count (cR D M (s.extract at_ b) (rest.length+2) count):=by
 cases rest with
 |nil=>rw[fin];rfl
 |cons f rest=>rw[fin];rfl
theorem C9 (s:ByteArray)(a b i j:Nat)(c:a+j<=b):(s.extract a b).extract i j=s.extract (a+i) (a+j):=by
 apply aB;rw[an,an,an,List.take_drop,xJ,xe,yw (by omega)]
theorem Ca (D M:Int)(s:ByteArray)(acc:List It)(c:Nat)(rest:List (List It×Nat))(count k:Nat)(x:It)(R R':Kx)(h:R=(if R'.e≠0 then Kx.bad R'.e else⟨x::R'.xs,k+R'.items,0⟩)):
 MC D M s acc c rest count R=MC D M s (acc++ [x]) c rest (count+k) R':=by
 subst h;unfold MC;by_cases b:R'.e≠0
 ·rw[zi b,zi b,zi (by exact b)];rfl
 rw[zh b,zh b,zh (by simp)];cases rest with
 |nil=>simp[ym]
 |cons f rest=>simp[ym]
theorem MD (D M:Int):∀(z:Nat) (s:ByteArray) (deep ahead:Nat),s.size<=z->(cR D M s deep ahead).e≠2:=by
 intro z;induction z with
 |zero=>intro s deep ahead h;rw[jE _ _ _ _ _ (by omega)];simp
 |succ z ih=>
  intro s deep ahead h;by_cases d:s.size=0
  ·rw[jE _ _ _ _ _ d];simp
  rw[iu D M s deep ahead d _ rfl];have b:=nB D M (2*s.size+2) s deep ahead;change(bq D M s deep ahead).e=0->1<=(bq D M s deep ahead).size/\(bq D M s deep ahead).size<=s.size at b
  generalize bq D M s deep ahead=R at*;by_cases c:R.e≠0
  ·rw[zi c];show within R.e≠2
   unfold within;split<;>omega
  rw[zh c];have b:=b (zC.1 c);have i:(s.extract R.size s.size).size=s.size-R.size:=aj _ _ _ (zd _);have e:=ih (s.extract R.size s.size) deep (ahead+R.items) (by omega);split
  ·exact e
  simp
theorem TF (D M:Int)(s:ByteArray)(acc:List It)(b:Nat)(rest:List (List It×Nat))(at_ count:Nat)(i:at_<b)(h:b<=s.size)(H:Bool×Nat×Nat×Int)
 (d:hd (s.extract at_ b) (aF D (rest.length+2)) (aG M count)=H) (c:H.2.2.2≠0):fin D M s acc b rest at_ count=Rd.bad (within H.2.2.2):=by
 have hz:(s.extract at_ b).size=b-at_:=aj _ _ _ h;have e:within H.2.2.2≠0:=by unfold within;split<;>simp_all
 rw[vC,iu D M _ _ _ (by omega) _ rfl,dU D M _ _ _ H d,zi c,zi (show(Rd.bad H.2.2.2).e≠0 from c)];unfold MC;rw[zi (show(Kx.bad (within (Rd.bad H.2.2.2).e)).e≠0 from e)];rfl
theorem Pq (D M:Int)(s:ByteArray)(acc:List It)(b:Nat)(rest:List (List It×Nat))(at_ count:Nat)(k:at_<b)(j:b<=s.size)(H:Bool×Nat×Nat×Int)
 (e:hd (s.extract at_ b) (aF D (rest.length+2)) (aG M count)=H) (d:H.2.2.2=0) (h:H.1=false):
 fin D M s acc b rest at_ count=fin D M s (acc++ [.mk (s.extract (at_+H.2.1) (at_+H.2.1+H.2.2.1)) false []]) b rest (at_+H.2.1+H.2.2.1) (count+1)/\at_+H.2.1+H.2.2.1<=b:=by
 have hz:(s.extract at_ b).size=b-at_:=aj _ _ _ j;have c:=sW (s.extract at_ b) (aF D (rest.length+2)) (aG M count);rw[e]at c;have c:=c d;refine⟨?_,by omega⟩;have i:bq D M (s.extract at_ b) (rest.length+2) count=⟨.mk ((s.extract at_ b).extract H.2.1 (H.2.1+H.2.2.1)) false [],H.2.1+H.2.2.1,1,0⟩:=by
  rw[dU D M _ _ _ H e,zh (show¬H.2.2.2≠0 by simp[d]),zi h]
 rw[vC,vC];refine Ca D M s acc b rest count 1 _ _ _ ?_;rw[iu D M _ _ _ (by omega) _ i];dsimp only;rw[zh (by simp),hz,C9 s at_ b _ _ (by omega),C9 s at_ b _ _ (by omega),show at_+(b-at_)=b from by omega,ym]
theorem Pr (D M:Int)(s:ByteArray)(acc:List It)(b:Nat)(rest:List (List It×Nat))(at_ count:Nat)(o:at_<b)(n:b<=s.size)(H:Bool×Nat×Nat×Int)
 (i:hd (s.extract at_ b) (aF D (rest.length+2)) (aG M count)=H) (h:H.2.2.2=0) (e:H.1=true):
 fin D M s acc b rest at_ count=fin D M s [] (at_+H.2.1+H.2.2.1) ((acc,b)::rest) (at_+H.2.1) (count+1)/\at_+H.2.1+H.2.2.1<=b/\1<=H.2.1:=by
 have hz:(s.extract at_ b).size=b-at_:=aj _ _ _ n;have d:=sW (s.extract at_ b) (aF D (rest.length+2)) (aG M count);rw[i]at d;have d:=d h;refine⟨?_,by omega,d.2.2.2 e⟩;have j:=dU D M (s.extract at_ b) (rest.length+2) count H i;rw[zh (show¬H.2.2.2≠0 by simp[h]),zh (show¬H.1=false by simp[e]),C9 s at_ b _ _ (by omega),<-ym,show rest.length+2+1=rest.length+3 from by omega]at j;rw[vC,iu D M _ _ _ (by omega) _ j,fin];have k:=MD D M (s.extract (at_+H.2.1) (at_+H.2.1+H.2.2.1)).size (s.extract (at_+H.2.1) (at_+H.2.1+H.2.2.1)) (rest.length+3) (count+1) (zd _);generalize cR D M (s.extract (at_+H.2.1) (at_+H.2.1+H.2.2.1)) (rest.length+3) (count+1)=R at*;by_cases c:R.e≠0
 ·have m:within R.e≠0:=by unfold within;split<;>simp_all
  have l:within R.e=R.e:=by unfold within;rw[zh k]
  rw[zi c,zi (show(Rd.bad R.e).e≠0 from c)];unfold MC;rw[zi (show(Kx.bad (within (Rd.bad R.e).e)).e≠0 from m)];show Rd.bad (within R.e)=_
  rw[l,zi c]
 rw[zh c];dsimp only;rw[zh (by simp),vC,hz,C9 s at_ b _ _ (by omega),show at_+(b-at_)=b from by omega,<-ym];refine(Ca D M s acc b rest count (1+R.items) (gT R.xs) _ _ rfl).trans ?_;rw[zh c];simp[gT,ym]
theorem ME (D M:Int)(s:ByteArray)(acc:List It)(b:Nat)(f:List It×Nat)(rest:List (List It×Nat))(count:Nat)(c:b<=s.size):fin D M s acc b (f::rest) b count=fin D M s (f.1++ [gT acc]) f.2 rest b count:=by
 rw[fin,jE _ _ _ _ _ (by rw[aj _ _ _ c];omega)];simp
theorem Ps (D M:Int)(s:ByteArray)(acc:List It)(b:Nat)(count:Nat)(c:b<=s.size):fin D M s acc b [] b count=⟨gT acc,b,count,0⟩:=by
 rw[fin,jE _ _ _ _ _ (by rw[aj _ _ _ c];omega)];simp
theorem rN (D M:Int)(s:ByteArray)(H:Bool×Nat×Nat×Int)(c:hd s (aF D 1) (aG M 0)=H):
 (H.2.2.2≠0->bq D M s 1 0=Rd.bad H.2.2.2)/\(H.2.2.2=0->H.1=false->bq D M s 1 0=⟨.mk (s.extract H.2.1 (H.2.1+H.2.2.1)) false [],H.2.1+H.2.2.1,1,0⟩)/\
 (H.2.2.2=0->H.1=true->bq D M s 1 0=fin D M s [] (H.2.1+H.2.2.1) [] H.2.1 1):=by
 refine⟨fun h=> ?_,fun h b=> ?_,fun h b=> ?_⟩
 ·rw[dU D M s 1 0 H c,zi h]
 ·rw[dU D M s 1 0 H c,zh (by simp[h]),zi b]
 rw[dU D M s 1 0 H c,zh (by simp[h]),zh (by simp[b]),fin];simp only[zM];split
 ·rfl
 simp[gT]
theorem fy (b n:Nat):(cK b n).length=if n<=55 then 1 else 1+(cH n).length:=by unfold cK;split<;>simp;omega
theorem Fv (s:ByteArray)(b n:Nat)(r:List UInt8)(w:b=128\/b=192)(c:s.data.toList=cK b n++r)(A:n<=r.length)(q:n<18446744073709551616)(p:b=128->n=1->128<=(r.getD 0 0).toNat):
 AV s=(decide (b=192),(cK b n).length,n,0):=by
 have hz:s.size=(cK b n).length+r.length:=by rw[<-aa,c,zj]
 rw[fy]at hz⊢;by_cases h:n<=55
 ·rw[zi h]at hz⊢;rw[cK,zi h]at c;have i:(s.data.toList.getD 0 0).toNat=b+n:=by rw[c,Zz,ZO,bn _ (by omega)]
  have j:s.data.toList.getD 1 0=r.getD 0 0:=by rw[c,Zz,List.getD_cons_succ]
  unfold AV;rw[i,j];dsimp only;have k:(if 192<=b+n then b+n-192 else b+n-128)=n:=by split<;>omega
  have d:decide (192<=b+n)=decide (b=192):=by rw[yP];simp;omega
  rw[zh (by omega),k,d];simp only[zi h];rw[zh (by omega),zh];rintro⟨o,a2,a3⟩;have a4:b=128:=by
   have:b≠192:=by simpa using o
   omega
  have:=p a4 a2;omega
 rw[zh h]at hz⊢;rw[cK,zh h]at c;have z:=iP 8 n (by simpa using q);have x:1<=(cH n).length:=by
  have:=Kw n (by omega);cases hl:cH n with
  |nil=>exact absurd hl this
  |cons a b=>simp
 have u:=B7 n (by omega);have i:(s.data.toList.getD 0 0).toNat=b+55+(cH n).length:=by rw[c,zV,ZO,bn _ (by omega)]
 have j:s.data.toList.getD 1 0=(cH n).getD 0 0:=by
  rw[c,zV,List.getD_cons_succ,zv,xy (by omega),<-zv]
 have m:(s.extract 1 (1+(cH n).length)).data.toList=cH n:=by
  rw[an,c,zV,Zs 1,zP,yg,zK,zX (zd _),Z9]
 have y:((cH n).getD 0 0).toNat≠0:=fun e=>u (zO.1 e)
 unfold AV;rw[i,j];dsimp only;have k:(if 192<=b+55+(cH n).length then b+55+(cH n).length-192 else b+55+(cH n).length-128)=55+(cH n).length:=by split<;>omega
 have d:decide (192<=b+55+(cH n).length)=decide (b=192):=by rw[yP];simp;omega
 rw[zh (by omega),k,d];have l:¬55+(cH n).length<=55:=by omega
 simp only[zh l,Nat.add_sub_cancel_left,m,Kv];rw[zh (by omega),zh (by omega),zh (by omega)]
theorem WX (s:ByteArray)(z:0<s.size)(H:Bool×Nat×Nat×Int)(A:AV s=H)(c:H.2.2.2=0):
 (H=(false,0,1,0)/\(s.data.toList.getD 0 0).toNat<128)\/
 (s.data.toList.take H.2.1=cK (if H.1=true then 192 else 128) H.2.2.1/\1<=H.2.1/\H.2.1=(cK (if H.1=true then 192 else 128) H.2.2.1).length/\¬(H.1=false/\H.2.2.1=1/\(s.data.toList.getD H.2.1 0).toNat<128)):=by
 subst A;have m:s.data.toList=s.data.toList.getD 0 0::s.data.toList.drop 1:=by
  have:=drop_cons s 0 z;rw[zK]at this;rw[this];simp
 unfold AV at c⊢;dsimp only at c⊢;have x:=(s.data.toList.getD 0 0).toNat_lt;have p:ub (((s.data.toList.getD 0 0).toNat:Nat):Int)=s.data.toList.getD 0 0:=by
  apply zO.1;rw[bn _ x]
 generalize D:(s.data.toList.getD 0 0).toNat=b at*;by_cases l:b<128
 ·rw[zi l];exact .inl ⟨rfl,l⟩
 rw[zh l]at c⊢;right;generalize r:(if 192<=b then b-192 else b-128)=d at*;have w:(if decide (192<=b)=true then 192 else 128)+d=b:=by
  rw[<-r];by_cases h:192<=b<;>simp[h];omega
 have C:d<=63:=by rw[<-r];split<;>omega
 by_cases k:d<=55
 ·simp only[zi k]at c⊢;by_cases i:s.size<1+d
  ·rw[zi i]at c;simp at c
  rw[zh i]at c⊢;split at c
  ·simp at c
  rename_i j
  rw[zh j];dsimp only;refine⟨?_,zd _, ?_,j⟩
  ·rw[m,zP,yz,cK,zi k,w,p]
  rw[fy,zi k]
 simp only[zh k]at c⊢;by_cases i:s.size<1+(d-55)
 ·rw[zi i]at c;simp at c
 rw[zh i]at c⊢;split at c
 ·simp at c
 rename_i j
 rw[zh j];split at c
 ·simp at c
 rename_i y
 rw[zh y];dsimp only;have u:(s.data.toList.getD 1 0).toNat≠0:=by omega
 have B:(s.extract 1 (1+(d-55))).data.toList=(s.data.toList.drop 1).take (d-55):=by rw[an,List.take_drop]
 have o:((s.data.toList.drop 1).take (d-55)).length=d-55:=by rw[zU,zR,aa];omega
 have q:cH (lP (s.extract 1 (1+(d-55))).data.toList)=(s.data.toList.drop 1).take (d-55):=by
  rw[B];refine Fl _ ?_;rw[zv,yA (by omega),xq,<-zv];intro e;apply u;rw[show 1+0=1 from rfl]at e;rw[e];rfl
 generalize lP (s.extract 1 (1+(d-55))).data.toList=n at*;refine⟨?_,by omega, ?_, ?_⟩
 ·rw[cK,zh (by omega),q,o];rw[m,Zs 1 (d-55),zP,yg,zK];congr 1
  rw[<-p];congr 2;omega
 ·rw[fy,zh (by omega),q,o]
 omega
theorem Vq (s:ByteArray)(d m:Bool)(h:(hd s d m).2.2.2=0):0<s.size/\d=false/\m=false/\hd s d m=AV s:=by
 unfold hd at h⊢;by_cases e:s.size=0
 ·rw[zi e]at h;simp at h
 rw[zh e]at h⊢;by_cases b:d=true
 ·rw[zi b]at h;simp at h
 rw[zh b]at h⊢;by_cases c:m=true
 ·rw[zi c]at h;simp at h
 rw[zh c];exact⟨by omega,by simpa using b,by simpa using c,rfl⟩
theorem vD {D:Int}{deep:Nat}:aF D deep=false↔(deep:Int)<=D/\deep<=16:=by simp[aF]
theorem ph {M:Int}{ahead:Nat}:aG M ahead=false↔(ahead:Int)+1<=M/\ahead+1<=1024:=by simp[aG]
structure acf (D M:Int)(x:It)(l:List UInt8)(deep ahead items:Nat):Prop where
 gI:x.gI=l
 right:x.right=true
 items:items=x.count
 deepD:(deep:Int)+x.deep<=D+1
 deep16:deep+x.deep<=17
 manyM:(ahead:Int)+x.count<=M
 many:ahead+x.count<=1024
structure Vr (D M:Int)(xs:List It)(l:List UInt8)(deep ahead items:Nat):Prop where
 gI:gH xs=l
 right:dh xs=true
 items:items=aM xs
 deepD:xs≠ []->(deep:Int)+cJ xs<=D+1
 deep16:xs≠ []->deep+cJ xs<=17
 manyM:xs≠ []->(ahead:Int)+aM xs<=M
 many:xs≠ []->ahead+aM xs<=1024
theorem Pt (x:It):1<=x.deep:=by cases x;simp[It.deep]
theorem TG (D M:Int):∀(z:Nat),(∀(s:ByteArray) (deep ahead:Nat),s.size<=z->(bq D M s deep ahead).e=0->acf D M (bq D M s deep ahead).x (s.data.toList.take (bq D M s deep ahead).size) deep ahead (bq D M s deep ahead).items)/\
 (∀(s:ByteArray) (deep ahead:Nat),s.size<=z->(cR D M s deep ahead).e=0->Vr D M (cR D M s deep ahead).xs s.data.toList deep ahead (cR D M s deep ahead).items):=by
 have G:∀(s:ByteArray) (deep ahead:Nat),s.size=0->Vr D M (cR D M s deep ahead).xs s.data.toList deep ahead (cR D M s deep ahead).items:=by
  intro s deep ahead h;rw[jE _ _ _ _ _ h];have:s.data.toList= []:=zo (by rw[aa];exact h);rw[this];exact⟨rfl,rfl,rfl,by simp,by simp,by simp,by simp⟩
 intro z;induction z with
 |zero=>
  refine⟨fun s deep ahead hz d=> ?_,fun s deep ahead hz _=>G s deep ahead (by omega)⟩;rw[dU D M s deep ahead _ rfl]at d;have:hd s (aF D deep) (aG M ahead)=(false,0,0,2):=by simp[hd,show s.size=0 by omega]
  rw[this]at d;simp[Rd.bad]at d
 |succ z ih=>
  obtain⟨ab,I⟩:=ih;have O:∀(s:ByteArray) (deep ahead:Nat),s.size<=z+1->(bq D M s deep ahead).e=0->acf D M (bq D M s deep ahead).x (s.data.toList.take (bq D M s deep ahead).size) deep ahead (bq D M s deep ahead).items:=by
   intro s deep ahead hz d;have c:=dU D M s deep ahead _ rfl;have o:=Vq s (aF D deep) (aG M ahead);have m:=sW s (aF D deep) (aG M ahead);generalize hd s (aF D deep) (aG M ahead)=H at*;by_cases j:H.2.2.2≠0
   ·rw[zi j]at c;rw[c]at d;exact absurd d j
   have B:=zC.1 j;obtain⟨S,Z,X,hH⟩:=o B;obtain⟨_,L,Yx,W⟩:=m B;obtain⟨d1,d2⟩:=vD.1 Z;obtain⟨m1,m2⟩:=ph.1 X;have his:=WX s S H hH.symm B;rw[zh j]at c;by_cases i:H.1=false
   ·rw[zi i]at c;rw[c];dsimp only;have l:(s.extract H.2.1 (H.2.1+H.2.2.1)).size=H.2.2.1:=by rw[aj _ _ _ L];omega
    have n:s.data.toList.take H.2.1++(s.extract H.2.1 (H.2.1+H.2.2.1)).data.toList=s.data.toList.take (H.2.1+H.2.2.1):=by
     rw[an];have:=zJ H.2.1 (s.data.toList.take (H.2.1+H.2.2.1));rwa [xe,yw (by omega)]at this
    refine⟨?_,by simp[It.right,formed,dh],by simp[It.count,aM],by simp[It.deep,cJ];omega,by simp[It.deep,cJ];omega,by simp[It.count,aM];omega,by simp[It.count,aM];omega⟩;have p:(s.extract H.2.1 (H.2.1+H.2.2.1)).data.toList.getD 0 0=if H.2.2.1=0 then 0 else s.data.toList.getD H.2.1 0:=by
     rw[an,zv,xq];split
     ·rename_i h;rw[yY (by rw[zU];omega)];rfl
     rw[yA (by omega),<-zv];rfl
    rcases his with⟨F,Y⟩|⟨k,h4,N,J⟩
    ·rw[F]at l n p⊢;dsimp only at*;rw[It.gI,zh (by simp),zi ⟨l,by rw[p];simpa using Y⟩,<-n];simp
    rw[It.gI,zh (by simp),zh (by rintro⟨a,b⟩;apply J;rw[l]at a;rw[p,zh (by omega)]at b;exact⟨i,a,b⟩),l,<-n,k,zh (by simp[i])]
   rw[zh i]at c;have K:H.1=true:=by simpa using i
   have l:(s.extract H.2.1 (H.2.1+H.2.2.1)).size=H.2.2.1:=by rw[aj _ _ _ L];omega
   have ad:=W K;have hS:=I (s.extract H.2.1 (H.2.1+H.2.2.1)) (deep+1) (ahead+1) (by omega);have n:s.data.toList.take H.2.1++(s.extract H.2.1 (H.2.1+H.2.2.1)).data.toList=s.data.toList.take (H.2.1+H.2.2.1):=by
    rw[an];have:=zJ H.2.1 (s.data.toList.take (H.2.1+H.2.2.1));rwa [xe,yw (by omega)]at this
   generalize cR D M (s.extract H.2.1 (H.2.1+H.2.2.1)) (deep+1) (ahead+1)=R at*;by_cases k:R.e≠0
   ·rw[zi k]at c;rw[c]at d;exact absurd d k
   rw[zh k]at c;rw[c];dsimp only;obtain⟨A,x,y,w,q,C,E⟩:=hS (zC.1 k);have u:R.xs= []\/R.xs≠ []:=by cases R.xs<;>simp
   refine⟨?_,by simp[It.right,formed,x],by simp[It.count,y], ?_, ?_, ?_, ?_⟩
   ·rcases his with⟨F,_⟩|⟨N,J,h7,h8⟩
    ·rw[F]at i;simp at i
    rw[It.gI,zi rfl,A,aa,l,<-n,N,zi K]
   all_goals
    rcases u with e|e
    ·rw[e];simp[It.deep,cJ,It.count,aM];try omega
    first
    |(have:=w e;simp only[It.deep];omega)
    |(have:=q e;simp only[It.deep];omega)
    |(have:=C e;simp only[It.count];omega)
    |(have:=E e;simp only[It.count];omega)
  refine⟨O,fun s deep ahead hz d=> ?_⟩;by_cases o:s.size=0
  ·exact G s deep ahead o
  have c:=iu D M s deep ahead o _ rfl;have r:=O s deep ahead hz;have m:=nB D M (2*s.size+2) s deep ahead;change(bq D M s deep ahead).e=0->1<=(bq D M s deep ahead).size/\(bq D M s deep ahead).size<=s.size at m
  generalize bq D M s deep ahead=R at*;by_cases j:R.e≠0
  ·rw[zi j]at c;rw[c]at d;have:within R.e≠0:=by unfold within;split<;>simp_all
   exact absurd d this
  have r:=r (zC.1 j);have m:=m (zC.1 j);rw[zh j]at c;have ae:(s.extract R.size s.size).size=s.size-R.size:=aj _ _ _ (zd _);have hS:=I (s.extract R.size s.size) deep (ahead+R.items) (by omega);generalize cR D M (s.extract R.size s.size) deep (ahead+R.items)=T at*;by_cases i:T.e≠0
  ·rw[zi i]at c;rw[c]at d;exact absurd d i
  rw[zh i]at c;rw[c];dsimp only;obtain⟨U,a2,a3,a4,a5,a6,a7⟩:=r;obtain⟨A,x,y,w,q,C,E⟩:=hS (zC.1 i);have u:T.xs= []\/T.xs≠ []:=by cases T.xs<;>simp
  refine⟨?_,by simp[dh,a2,x],by simp[aM,a3,y],fun _=> ?_,fun _=> ?_,fun _=> ?_,fun _=> ?_⟩
  ·rw[gH,U,A,an,cQ,zJ]
  all_goals
   rcases u with e|e
   ·rw[e];simp only[cJ,aM];omega
   have:=w e;have:=q e;have:=C e;have:=E e;simp only[cJ,aM];omega
theorem WY (D M:Int)(x:It):∀(s:ByteArray) (more:List UInt8) (deep ahead:Nat),s.data.toList=x.gI++more->s.size<18446744073709551616->x.right=true->(deep:Int)+x.deep<=D+1->deep+x.deep<=17->(ahead:Int)+x.count<=M->ahead+x.count<=1024->
 bq D M s deep ahead=⟨.mk (if x.list=true then ByteArray.empty else x.text) x.list x.sub,x.gI.length,x.count,0⟩:=by
 induction x using It.ind with
 |h t l xs ih=>
  intro s more deep ahead c Z k U R C S;have hz:s.size=(It.mk t l xs).gI.length+more.length:=by rw[<-aa,c,zj]
  have UG:=Pt (.mk t l xs);have Ov:=BR (.mk t l xs);have m:0<s.size->hd s (aF D deep) (aG M ahead)=AV s:=by
   intro h;unfold hd;rw[zh (by omega),vD.2 (by omega),ph.2 (by omega)];simp
  cases l with
  |false=>
   have J:xs= []:=by
    simp only[It.right,formed,zx]at k;exact zo (by simpa using k.1)
   subst J;rw[It.gI,zh (by simp)]at c hz⊢;by_cases j:t.size=1/\(t.data.toList.getD 0 0).toNat<128
   ·rw[zi j]at c hz⊢;rw[aa]at hz;have G:s.data.toList.getD 0 0=t.data.toList.getD 0 0:=by
     rw[c,zv,xy (by rw[aa];omega),<-zv]
    have d:hd s (aF D deep) (aG M ahead)=(false,0,1,0):=by
     rw[m (by omega)];unfold AV;rw[G];dsimp only;rw[zi j.2]
    rw[dU D M s deep ahead _ d];simp only[It.uf,It.ue,It.gM,It.count,aM];have:s.extract 0 (0+1)=t:=by
     apply aB;rw[an,c,zK,zX (by rw[aa];omega),zy (by rw[aa];omega)]
    simp[this,j.1]
   rw[zh j]at c hz⊢;rw[zB]at c;have d:hd s (aF D deep) (aG M ahead)=(decide (128=192),(cK 128 t.size).length,t.size,0):=by
    rw[zj,aa]at hz;have E:1<=(cK 128 t.size).length:=by rw[fy];split<;>omega
    rw[m (by omega)];refine Fv s 128 t.size _ (.inl rfl) c (by simp) (by omega) ?_;intro _ N;have:((t.data.toList++more).getD 0 0)=t.data.toList.getD 0 0:=by
     rw[zv,xy (by rw[aa];omega),<-zv]
    rw[this];exact Nat.le_of_not_lt fun h=>j ⟨N,h⟩
   rw[dU D M s deep ahead _ d];simp only[It.uf,It.ue,It.gM,It.count,aM];have:s.extract (cK 128 t.size).length ((cK 128 t.size).length+t.size)=t:=by
    apply aB;rw[an,c,<-zB,zX (by rw[zj,aa];omega),zy (by rw[zj,aa];omega),List.drop_left]
   simp[this]
  |true=>
   rw[It.gI,zi rfl]at c hz⊢;rw[zB]at c;rw[zj]at hz;have E:1<=(cK 192 (gH xs).length).length:=by rw[fy];split<;>omega
   have d:hd s (aF D deep) (aG M ahead)=(decide (192=192),(cK 192 (gH xs).length).length,(gH xs).length,0):=by
    rw[m (by omega)];exact Fv s 192 (gH xs).length _ (.inr rfl) c (by simp) (by omega) (by omega)
   have p:(s.extract (cK 192 (gH xs).length).length ((cK 192 (gH xs).length).length+(gH xs).length)).data.toList=gH xs:=by
    rw[an,c,<-zB,zX (by rw[zj];omega),zy (by rw[zj];omega),List.drop_left]
   rw[dU D M s deep ahead _ d];simp only[It.uf,It.ue,It.gM];rw[zh (by simp),zh (by simp)];simp only[It.right,zx]at k;have o:=k.2;have K:(deep:Int)+1+cJ xs<=D+1:=by simp only[It.deep]at U;omega
   have A:deep+1+cJ xs<=17:=by simp only[It.deep]at R;omega
   have ab:(ahead:Int)+1+aM xs<=M:=by simp only[It.count]at C;omega
   have Y:ahead+1+aM xs<=1024:=by simp only[It.count]at S;omega
   have w:∀(b:List It),(∀y∈b,y∈xs)->∀(u:ByteArray) (a:Nat),u.data.toList=gH b->u.size<18446744073709551616->dh b=true->(deep:Int)+1+cJ b<=D+1->deep+1+cJ b<=17->(a:Int)+aM b<=M->a+aM b<=1024->dh b=true->
    cR D M u (deep+1) a=⟨b,aM b,0⟩:=by
    intro b;induction b with
    |nil=>
     intro _ u a hu _ _ _ _ _ _ _;rw[jE _ _ _ _ _ (by rw[<-aa,hu];rfl)];rfl
    |cons y b ihy=>
     intro n u a hu L e O H r I _;simp only[dh,zx]at e;simp only[cJ]at O H;simp only[aM]at r I;rw[gH]at hu;have q:=ih y (n y (by simp)) u (gH b) (deep+1) a hu L e.1 (by omega) (by omega) (by omega) (by omega);have B:(It.mk (if y.list=true then ByteArray.empty else y.text) y.list y.sub)=y:=by
      cases y with
      |mk t' l' s'=>
       simp only[It.ue,It.uf,It.gM];cases l' with
       |false=>simp
       |true=>
        have F:t'.size=0:=by
         have:=e.1;simp only[It.right,formed,zx]at this;simpa using this.1
        have:t'=ByteArray.empty:=aB (by rw[zo (show t'.data.toList.length=0 by rw[aa];exact F)];rfl);rw[this];simp
     have i:=nB D M (2*u.size+2) u (deep+1) a;change(bq D M u (deep+1) a).e=0->1<=(bq D M u (deep+1) a).size/\(bq D M u (deep+1) a).size<=u.size at i
     rw[q]at i;have i:=i rfl;dsimp only at i;rw[iu D M u (deep+1) a (by omega) _ q];dsimp only;rw[zh (by simp)];have W:(u.extract y.gI.length u.size).data.toList=gH b:=by rw[an,cQ,hu,List.drop_left]
     have X:=ihy (fun z hz=>n z (by simp[hz])) (u.extract y.gI.length u.size) (a+y.count) W (by rw[aj _ _ _ (zd _)];omega) e.2 (by omega) (by omega) (by omega) (by omega) e.2;rw[X];dsimp only;rw[zh (by simp),B,aM]
   rw[w xs (fun _ h=>h) _ _ p (by rw[<-aa,p];omega) o K A (by omega) (by omega) o];dsimp only;rw[zh (by simp),zj,It.count];simp
theorem TH (D M:Int)(x:It)(s:ByteArray)(more:List UInt8)(deep ahead:Nat)(c:s.data.toList=x.gI++more)(j:s.size<18446744073709551616)(b:x.right=true)(h:(deep:Int)+x.deep<=D+1)(i:deep+x.deep<=17)(k:(ahead:Int)+x.count<=M)(d:ahead+x.count<=1024):
 bq D M s deep ahead=⟨x,x.gI.length,x.count,0⟩:=by
 rw[WY D M x s more deep ahead c j b h i k d];cases x with
 |mk t l xs=>
  cases l with
  |false=>rfl
  |true=>
   have e:t.size=0:=by
    simp only[It.right,formed,zx]at b;simpa using b.1
   have:t=ByteArray.empty:=aB (by rw[zo (show t.data.toList.length=0 by rw[aa];exact e)];rfl);subst this;rfl
def lZ (D M:Int)(s:ByteArray):Int:=if(bq D M s 1 0).e≠0 then(bq D M s 1 0).e else if(bq D M s 1 0).size<s.size then 3 else 0
def jf (D M:Int)(s:ByteArray):It:=if lZ D M s≠0 then jv else(bq D M s 1 0).x
theorem Cb (x:It):x.may=true↔x.right=true/\x.deep<=16/\x.count<=1024:=by
 simp only[It.may,zx,zY,and_assoc]
theorem pj (x:It)(D M:Int):fO x D M=0↔x.may=true/\(x.deep:Int)<=D/\(x.count:Int)<=M:=by
 unfold fO;cases x.may<;>simp
 split
 ·simp;omega
 split
 ·simp;omega
 simp;omega
theorem Pu (D M:Int)(x:It)(h:fO x D M=0)(s:ByteArray)(c:s.data.toList=x.gI)(hz:s.size<18446744073709551616):lZ D M s=0/\jf D M s=x:=by
 rw[pj,Cb]at h;obtain⟨⟨e,k,m⟩,l,j⟩:=h;have d:=TH D M x s [] 1 0 (by simpa using c) hz e (by omega) (by omega) (by omega) (by omega);have i:s.size=x.gI.length:=by rw[<-c,aa]
 have b:lZ D M s=0:=by
  unfold lZ;rw[d];simp;omega
 refine⟨b, ?_⟩;unfold jf;rw[zh (by simp[b]),d]
theorem Pv (D M:Int)(s:ByteArray)(h:lZ D M s=0):fO (jf D M s) D M=0/\(jf D M s).gI=s.data.toList:=by
 have hx:jf D M s=(bq D M s 1 0).x:=by unfold jf;rw[zh (by simp[h])]
 rw[hx];unfold lZ at h;have b:=(TG D M s.size).1 s 1 0 (zd _);generalize bq D M s 1 0=R at*;by_cases c:R.e≠0
 ·rw[zi c]at h;exact absurd h c
 rw[zh c]at h;have b:=b (zC.1 c);have d:¬R.size<s.size:=by intro d;rw[zi d]at h;simp at h
 have j:s.data.toList.length=s.size:=aa s;refine⟨?_, ?_⟩
 ·rw[pj,Cb];have e:=b.deepD;have i:=b.deep16;have a3:=b.manyM;have a4:=b.many;exact⟨⟨b.right,by omega,by omega⟩,by omega,by omega⟩
 rw[b.gI,zy (by omega)]
theorem Cc (ty:Ty)(x:It):eO ty x=0↔ty.may=true/\x.may=true/\x.dj ty=true:=by
 unfold eO;cases ty.may<;>cases x.may<;>cases x.dj ty<;>simp
def gU (ty:Ty)(x:It)(D M:Int):Int:=if eO ty x≠0 then eO ty x else fO x D M
def ky (ty:Ty)(s:ByteArray)(D M:Int):Int:=if ty.may=false then 1 else if lZ D M s≠0 then lZ D M s else eO ty (jf D M s)
def qu (ty:Ty)(s:ByteArray)(D M:Int):It:=if ky ty s D M≠0 then jv else jf D M s
theorem l5 (ty:Ty)(x:It)(D M:Int):gU ty x D M=0↔eO ty x=0/\fO x D M=0:=by
 unfold gU;split<;>simp_all
theorem pn (ty:Ty)(s:ByteArray)(D M:Int):ky ty s D M=0↔ty.may=true/\lZ D M s=0/\eO ty (jf D M s)=0:=by
 unfold ky;cases ty.may
 ·simp
 simp only[Bool.true_eq_false,xG,true_and];split<;>simp_all
theorem C' (ty:Ty)(x:It)(D M:Int)(h:gU ty x D M=0)(s:ByteArray)(b:s.data.toList=x.gI)(hz:s.size<18446744073709551616):ky ty s D M=0/\jf D M s=x:=by
 rw[l5]at h;obtain⟨d,c⟩:=Pu D M x h.2 s b hz;rw[pn,c];exact⟨⟨((Cc ty x).1 h.1).1,d,h.1⟩,rfl⟩
theorem Da (ty:Ty)(s:ByteArray)(D M:Int)(h:ky ty s D M=0):gU ty (jf D M s) D M=0/\(jf D M s).gI=s.data.toList:=by
 rw[pn]at h;obtain⟨b,c⟩:=Pv D M s h.2.1;rw[l5];exact⟨⟨h.2.2,b⟩,c⟩
structure bC where
 id:Nat
 name:ByteArray
 ty:ByteArray
def bC.shape (e:bC):Ty:=(cP e.ty.data.toList).getD (.mk 0 0 [] 0)
def fP (c:aN)(seen:List bC)(e:bC):Int:=
 if b8 e.name=false then 11 else if(seen.any fun x=>decide (x.name=e.name))=true then 11 else if(seen.any fun x=>decide (x.id=e.id))=true then 1
 else if cP e.ty.data.toList=none then 3 else if c.fm=1/\e.shape.flat=false then 12 else 0
def iT (c:aN):List bC->List bC->Int
 |_,[]=>0
 |seen,e::r=>if fP c seen e≠0 then fP c seen e else iT c (seen++ [e]) r
def mQ (c:aN)(l:List bC):Int:=if c.right=false then 1 else if 32<l.length then 4 else iT c [] l
def fG (l:List bC)(nm:ByteArray):Option bC:=l.find? fun e=>decide (e.name=nm)
def mI (c:aN)(f:Fr)(e:bC):Bool:=(decide (c.fm=1)&&decide (f.nm=e.name)&&decide (f.id=0))||(decide (c.fm≠1)&&decide (f.id=e.id)&&decide (f.nm.size=0))
def fU (c:aN)(l:List bC)(f:Fr):Option bC:=l.find? (mI c f)
def bY (c:aN)(t:Ty)(x:It):ByteArray×Int:=if c.fm=1 then oS t x c.it else(if gU t x c.de c.it=0 then⟨x.gI.toArray⟩else⟨#[]⟩,gU t x c.de c.it)
def dz (c:aN)(t:Ty)(s:ByteArray):Int×It:=if c.fm=1 then jP t s c.it else(ky t s c.de c.it,qu t s c.de c.it)
def bI (c:aN)(l:List bC)(nm:ByteArray)(x:It):Fr×Int:=match fG l nm with
 |none=>(rG,11)
 |some e=>if(bY c e.shape x).2≠0 then(rG,(bY c e.shape x).2)else if c.fm=1 then(⟨0,e.name,(bY c e.shape x).1⟩,0)else(⟨e.id,ByteArray.empty,(bY c e.shape x).1⟩,0)
structure Ms where
 name:ByteArray
 x:It
def qv :Ms:=⟨ByteArray.empty,jv⟩
def eZ (c:aN)(l:List bC)(f:Fr):Int×Ms:=match fU c l f with
 |none=>(11,qv)
 |some e=>if(dz c e.shape f.body).1=0 then(0,⟨e.name,(dz c e.shape f.body).2⟩)else if(dz c e.shape f.body).1=2 then(3,qv)else((dz c e.shape f.body).1,qv)
structure cT (c:aN)(l:List bC):Prop where
 may:∀e∈l,b8 e.name=true
 ty:∀e∈l,cP e.ty.data.toList=some e.shape
 flat:c.fm=1->∀e∈l,e.shape.flat=true
 names:∀i j (hi:i<l.length) (hj:j<l.length),l[i].name=l[j].name->i=j
 ids:∀i j (hi:i<l.length) (hj:j<l.length),l[i].id=l[j].id->i=j
theorem cT.nil (c:aN):cT c []:=⟨by simp,by simp,by simp,by simp,by simp⟩
theorem Cd {c:aN}{seen:List bC}{e:bC}(h:fP c seen e=0):b8 e.name=true/\(∀x∈seen,x.name≠e.name)/\(∀x∈seen,x.id≠e.id)/\cP e.ty.data.toList=some e.shape/\(c.fm=1->e.shape.flat=true):=by
 unfold fP at h;by_cases i:b8 e.name=false
 ·rw[zi i]at h;cases h
 rw[zh i]at h;by_cases d:(seen.any fun x=>decide (x.name=e.name))=true
 ·rw[zi d]at h;cases h
 rw[zh d]at h;by_cases k:(seen.any fun x=>decide (x.id=e.id))=true
 ·rw[zi k]at h;cases h
 rw[zh k]at h;by_cases j:cP e.ty.data.toList=none
 ·rw[zi j]at h;cases h
 rw[zh j]at h;by_cases l:c.fm=1/\e.shape.flat=false
 ·rw[zi l]at h;cases h
 refine⟨by simpa using i,fun x hx b=>d (ZD.2 ⟨x,hx,zE b⟩),fun x hx b=>k (ZD.2 ⟨x,hx,zE b⟩), ?_,fun m=> ?_⟩
 ·obtain⟨t,n⟩:=Option.ne_none_iff_exists'.1 j;unfold bC.shape;rw[n];rfl
 cases hf:e.shape.flat with
 |true=>rfl
 |false=>exact absurd ⟨m,hf⟩ l
theorem cT.snoc {c:aN}{l:List bC}{e:bC}(h:cT c l)(q:fP c l e=0):cT c (l++ [e]):=by
 obtain⟨w,u,z,y,r⟩:=Cd q;have key:∀{p:Type} (f:bC->p),(∀x∈l,f x≠f e)->(∀i j (hi:i<l.length) (m:j<l.length),f l[i]=f l[j]->i=j)->∀i j (hi:i<(l++ [e]).length) (m:j<(l++ [e]).length),f (l++ [e])[i]=f (l++ [e])[j]->i=j:=by
  intro p f o s i j hi m b;simp only[zj,yv]at hi m;by_cases k:i<l.length
  ·rw[Ze k]at b;by_cases d:j<l.length
   ·rw[Ze d]at b;exact s i j k d b
   obtain rfl:j=l.length:=by omega
   rw[List.getElem_concat_length rfl]at b;exact absurd b (o _ (zN k))
  obtain rfl:i=l.length:=by omega
  rw[List.getElem_concat_length rfl]at b;by_cases d:j<l.length
  ·rw[Ze d]at b;exact absurd b.symm (o _ (zN d))
  omega
 refine⟨fun x hx=> ?_,fun x hx=> ?_,fun n x hx=> ?_,key (·.name) u h.names,key (·.id) z h.ids⟩
 ·rcases ZK.1 hx with hx|hx
  ·exact h.may x hx
  obtain rfl:=yS.1 hx;exact w
 ·rcases ZK.1 hx with hx|hx
  ·exact h.ty x hx
  obtain rfl:=yS.1 hx;exact y
 rcases ZK.1 hx with hx|hx
 ·exact h.flat n x hx
 obtain rfl:=yS.1 hx;exact r n
theorem Fw {c:aN}:∀(r seen:List bC),cT c seen->iT c seen r=0->cT c (seen++r)
 | [],seen,h,_=>by simpa using h
 |e::r,seen,h,hz=>by
  rw[iT]at hz;by_cases he:fP c seen e=0
  ·rw[zh (by simp[he])]at hz;have:=Fw r (seen++ [e]) (h.snoc he) hz;rwa [zB,Zz]at this
  rw[zi he]at hz;exact absurd hz he
theorem Pw {c:aN}{l:List bC}(h:mQ c l=0):c.right=true/\l.length<=32/\cT c l:=by
 unfold mQ at h;cases hr:c.right with
 |false=>rw[zi hr]at h;cases h
 |true=>
  rw[zh (by simp[hr])]at h;by_cases b:32<l.length
  ·rw[zi b]at h;cases h
  rw[zh b]at h;exact⟨rfl,by omega,by simpa using Fw l [] (cT.nil c) h⟩
open Go.RowKit
def mE :List (Value×Value)->Nat->List MapEntry
 | [],_=> []
 |x::xs,b=>⟨x.1,x.2,b⟩::mE xs (b+1)
theorem Ce :∀(l m:List (Value×Value)) (b:Nat),mE (l++m) b=mE l b++mE m (b+l.length)
 | [],m,b=>by simp[mE]
 |x::xs,m,b=>by simp only[zV,mE,Ce xs m,zw];rw[show b+1+xs.length=b+(xs.length+1)from by omega]
theorem KC :∀(l:List (Value×Value)) (b j:Nat),(mE l b)[j]?=(l[j]?).map fun x=>⟨x.1,x.2,b+j⟩
 | [],b,j=>by simp[mE]
 |x::xs,b,0=>by simp[mE]
 |x::xs,b,j+1=>by simp only[mE,List.getElem?_cons_succ,KC xs];rw[show b+1+j=b+(j+1)from by omega]
theorem WZ {l:List (Value×Value)}{b:Nat}{e:MapEntry}(h:e∈mE l b):∃x∈l,e.key=x.1/\e.val=x.2:=by
 obtain⟨j,c⟩:=List.getElem?_of_mem h;rw[KC]at c;cases hl:l[j]? with
 |none=>rw[hl]at c;cases c
 |some x=>
  rw[hl]at c;injection c with c;subst c;exact⟨x,xf hl,rfl,rfl⟩
theorem KD {d:TypeDesc}{k:Value}(o:MapKept.IsKey d k)(l:List (Value×Value))(m:∀x∈l,MapKept.IsKey d x.1):
 (Instr.findNow d k (mE l 0) 0=some none/\∀x∈l,x.1≠k)\/∃j x,Instr.findNow d k (mE l 0) 0=some (some (j,x.2))/\l[j]?=some x/\x.1=k:=by
 rcases MapKept.findNow_spec o (mE l 0) 0 (fun e n=>by obtain⟨x,hx,c,_⟩:=WZ n;rw[c];exact m x hx)with⟨c,b⟩|⟨j,e,c,b,h⟩
 ·refine .inl ⟨c,fun x hx=> ?_⟩;obtain⟨j,p⟩:=List.getElem?_of_mem hx;have h:=b ⟨x.1,x.2,0+j⟩ (xf (i:=j) (by rw[KC,p];rfl));exact h
 rw[KC]at b;cases JM:l[j]? with
 |none=>rw[JM]at b;cases b
 |some x=>
  rw[JM]at b;injection b with b;subst b;exact .inr ⟨j,x,by rw[c,zM],JM,h⟩
section
variable {P:Program} {w:World} {g c:Nat} {T K E:TypeId} {d:TypeDesc} {k:Value} {es:List MapEntry}
def jw (w:World)(g:Nat)(l:List (Value×Value)):Prop:=w.heap[g]?=some (.map (mE l 0).toArray l.length)
theorem jw.lt {l:List (Value×Value)}(h:jw w g l):g<w.heap.size:=yG h
theorem Fx {l:List (Value×Value)}(c:jw w g l)(e:P.underlying T=some (.map K E))(b:P.underlying K=some d)(i:MapKept.IsKey d k){j:Nat}{v:Value}(h:Instr.findNow d k (mE l 0) 0=some (some (j,v))):
 (Instr.lookup T (.map (some g)) k true).run P w= .ok (.tuple #[v,.bool true]) w:=by
 simp[Instr.lookup,xT e,xP c,xY b i,Zc b h,Result.andThen]
theorem KE {l:List (Value×Value)}(c:jw w g l)(i:P.underlying T=some (.map K E))(b:P.underlying K=some d)(e:MapKept.IsKey d k)(h:Instr.findNow d k (mE l 0) 0=some none){z:Value}(hz:(zeroValue E).run P w= .ok z w):
 (Instr.lookup T (.map (some g)) k true).run P w= .ok (.tuple #[z,.bool false]) w:=by
 simp[Instr.lookup,xT i,xP c,xY b e,Zc b h,Result.andThen,hz]
def oT (w:World)(g:Nat)(l:List (Value×Value))(k v:Value):World:={w with heap:=w.heap.setIfInBounds g (.map (mE (l++ [(k,v)]) 0).toArray (l.length+1))}
theorem KF {l:List (Value×Value)}(b:jw w g l)(j:P.underlying T=some (.map K E))(c:P.underlying K=some d)(i:MapKept.IsKey d k)(h:Instr.findNow d k (mE l 0) 0=some none)(v:Value):
 (Instr.mapUpdate T (.map (some g)) k v).run P w= .ok () (oT w g l k v):=by
 have e:(mE l 0).toArray.push ⟨k,v,l.length⟩=(mE (l++ [(k,v)]) 0).toArray:=by rw[Ce];simp[mE]
 simp[Instr.mapUpdate,xT j,xP b,xY c i,Zc c h,Result.andThen,MapKept.run_setObj_map _ b];unfold oT;rw[<-e];simp
theorem sZ {l:List (Value×Value)}(b:jw w g l)(k v:Value):jw (oT w g l k v) g (l++ [(k,v)]):=by
 unfold jw oT;simp only[zj,yv];exact(MapKept.heap_set b).1
theorem vE (w:World)(g:Nat)(l:List (Value×Value))(k v:Value):ae [g] w (oT w g l k v):=
 ⟨rfl,rfl,rfl,by simp[oT],fun j _ c=>by
  have b:g≠j:=fun e=>c (by simp[e])
  show(w.heap.setIfInBounds g _)[j]?=_
  simp[b]⟩
theorem jw.only {l:List (Value×Value)}{L:List Nat}{w':World}(h:jw w g l)(c:ae L w w')(b:g∉L):jw w' g l:=(c.block g h.lt b).trans h
theorem jw.below {l:List (Value×Value)}{B:Nat}{w':World}(h:jw w g l)(b:Below B w w')(c:g<B):jw w' g l:=(b.block g c).trans h
theorem jw.new (w:World):jw (w.alloc (.map #[] 0)) w.heap.size []:=yM w _
end
abbrev bZ :=bC×Value
def AW (l:List bZ):List (Value×Value):=l.map fun r=>(.string r.1.name,r.2)
def AX (l:List bZ):List (Value×Value):=l.map fun r=>(.int .u64 r.1.id,r.2)
def aI (l:List bZ):List bC:=l.map (·.1)
theorem TJ (l:List bZ):∀x∈AW l,MapKept.IsKey .string x.1:=by
 intro x hx;obtain⟨r,_,rfl⟩:=xD.1 hx;simp[MapKept.IsKey]
theorem TK (l:List bZ):∀x∈AX l,MapKept.IsKey (.int .u64) x.1:=by
 intro x hx;obtain⟨r,_,rfl⟩:=xD.1 hx;simp[MapKept.IsKey]
theorem jx {l:List bC}{p:bC->Bool}(h:∀e∈l,p e=false):l.find? p=none:=List.find?_eq_none.2 fun e b=>by simp[h e b]
theorem jy {l:List bC}{p:bC->Bool}{j:Nat}{e:bC}(b:l[j]?=some e)(c:p e=true)(hu:∀i (x:bC),l[i]?=some x->p x=true->i=j):l.find? p=some e:=by
 cases h:l.find? p with
 |none=>exact absurd c (List.find?_eq_none.1 h e (xf b))
 |some x=>
  have hx:=Ym h;obtain⟨i,hi⟩:=List.getElem?_of_mem (Zb h);have:=hu i x hi hx;subst this;rw[hi]at b;exact b
theorem Cf {l:List bC}{i:Nat}{x:bC}(h:l[i]?=some x):∃hi:i<l.length,l[i]=x:=by
 obtain⟨hi,e⟩:=xx.1 h;exact⟨hi,e⟩
theorem Cg {c:aN}{l:List bZ}(h:cT c (aI l))(nm:ByteArray):
 (Instr.findNow .string (.string nm) (mE (AW l) 0) 0=some none/\fG (aI l) nm=none)\/∃(j:Nat) (r:bZ),Instr.findNow .string (.string nm) (mE (AW l) 0) 0=some (some (j,r.2))/\l[j]?=some r/\r.1.name=nm/\fG (aI l) nm=some r.1:=by
 rcases KD (d:= .string) (k:= .string nm) (by simp[MapKept.IsKey]) (AW l) (TJ l)with⟨n,b⟩|⟨j,x,n,b,z⟩
 ·refine .inl ⟨n,jx fun e p=>zu fun m=> ?_⟩;obtain⟨r,q,rfl⟩:=xD.1 p;exact b (.string r.1.name,r.2) (xD.2 ⟨r,q,rfl⟩) (by rw[m])
 unfold AW at b;rw[xS]at b;cases hl:l[j]? with
 |none=>rw[hl]at b;cases b
 |some r=>
  rw[hl]at b;injection b with b;subst b;have m:r.1.name=nm:=by injection z
  have o:(aI l)[j]?=some r.1:=by unfold aI;rw[xS,hl];rfl
  refine .inr ⟨j,r,n,hl,m,jy o (zE m) fun i x hi hx=> ?_⟩;obtain⟨s,w⟩:=Cf hi;obtain⟨y,u⟩:=Cf o;exact h.names i j s y (by rw[w,u,m];exact ye hx)
theorem KG {c:aN}{l:List bZ}(h:cT c (aI l))(id:Nat)(p:bC->Bool)(n:∀e,p e=decide (e.id=id)):
 (Instr.findNow (.int .u64) (.int .u64 id) (mE (AX l) 0) 0=some none/\(aI l).find? p=none)\/∃(j:Nat) (r:bZ),Instr.findNow (.int .u64) (.int .u64 id) (mE (AX l) 0) 0=some (some (j,r.2))/\l[j]?=some r/\r.1.id=id/\(aI l).find? p=some r.1:=by
 rcases KD (d:= .int .u64) (k:= .int .u64 id) (by simp[MapKept.IsKey]) (AX l) (TK l)with⟨o,b⟩|⟨j,x,o,b,s⟩
 ·refine .inl ⟨o,jx fun e u=>by
   rw[n];refine zu fun m=> ?_
   obtain⟨r,w,rfl⟩:=xD.1 u;exact b (.int .u64 r.1.id,r.2) (xD.2 ⟨r,w,rfl⟩) (by rw[m])⟩
 unfold AX at b;rw[xS]at b;cases hl:l[j]? with
 |none=>rw[hl]at b;cases b
 |some r=>
  rw[hl]at b;injection b with b;subst b;have m:r.1.id=id:=by injection s with _ s;omega
  have q:(aI l)[j]?=some r.1:=by unfold aI;rw[xS,hl];rfl
  refine .inr ⟨j,r,o,hl,m,jy q (by rw[n];exact zE m) fun i x hi hx=> ?_⟩;obtain⟨y,A⟩:=Cf hi;obtain⟨B,z⟩:=Cf q;rw[n]at hx;exact h.ids i j y B (by rw[A,z,m];exact ye hx)
theorem Db {c:aN}(h:c.fm=1)(l:List bC)(f:Fr):fU c l f=if f.id=0 then fG l f.nm else none:=by
 unfold fU fG;by_cases b:f.id=0
 ·rw[zi b];congr 1
  funext e
  simp[mI,h,b,eq_comm]
 rw[zh b];exact jx fun e _=>by simp[mI,h,b]
theorem IA {c:aN}(h:c.fm≠1)(l:List bC)(f:Fr)(b:f.nm.size≠0):fU c l f=none:=jx fun e _=>by simp[mI,h,b]
theorem TM {c:aN}(h:c.fm≠1)(f:Fr)(b:f.nm.size=0)(e:bC):mI c f e=decide (e.id=f.id):=by simp[mI,h,b,eq_comm]
theorem Fy {l:List bC}{p:bC->Bool}(h:l.find? p=none):l.any p=false:=Z5.2 fun e b=>by simpa using List.find?_eq_none.1 h e b
theorem Fz {l:List bC}{p:bC->Bool}{e:bC}(h:l.find? p=some e):l.any p=true:=ZD.2 ⟨e,Zb h,Ym h⟩
theorem nE {l:List bC}{nm:ByteArray}{e:bC}(h:fG l nm=some e):e∈l/\e.name=nm:=⟨Zb h,ye (Ym (p:=fun x:bC=>decide (x.name=nm)) h)⟩
theorem Dc {c:aN}{l:List bC}{f:Fr}{e:bC}(h:fU c l f=some e):e∈l/\mI c f e=true:=⟨Zb h,Ym h⟩
theorem MF {c:aN}{l:List bC}(h:cT c l){e:bC}(d:e∈l):fG l e.name=some e:=by
 obtain⟨j,b,rfl⟩:=yW d;refine jy (zA b) (zE rfl) fun i x hi hx=> ?_
 obtain⟨k,m⟩:=Cf hi;exact h.names i j k b (by rw[m];exact ye hx)
theorem vF {c:aN}{l:List bC}(h:cT c l){f:Fr}{e:bC}(q:e∈l)(b:mI c f e=true):fU c l f=some e:=by
 obtain⟨j,n,rfl⟩:=yW q;refine jy (zA n) b fun i x hi hx=> ?_
 obtain⟨o,p⟩:=Cf hi;by_cases d:c.fm=1
 ·have k:f.nm=x.name:=by simp[mI,d]at hx;exact hx.1
  have m:f.nm=l[j].name:=by simp[mI,d]at b;exact b.1
  exact h.names i j o n (by rw[p,<-k,m])
 have k:f.id=x.id:=by simp[mI,d]at hx;exact hx.1
 have m:f.id=l[j].id:=by simp[mI,d]at b;exact b.1
 exact h.ids i j o n (by rw[p,<-k,m])
theorem AY {s:ByteArray}(h:s.size=0):s=ByteArray.empty:=aB (by
 have:s.data.toList.length=0:=by rw[aa];exact h
 rw[zo this];rfl)
theorem MG {c:aN}(h:c.fm=1){f:Fr}{e:bC}(d:mI c f e=true):f=⟨0,e.name,f.body⟩:=by
 obtain⟨i,n,b⟩:=f;simp[mI,h]at d;obtain⟨rfl,rfl⟩:=d;rfl
theorem IB {c:aN}(h:c.fm≠1){f:Fr}{e:bC}(j:mI c f e=true):f=⟨e.id,ByteArray.empty,f.body⟩:=by
 obtain⟨i,n,b⟩:=f;simp[mI,h]at j;obtain⟨rfl,d⟩:=j;rw[show n=ByteArray.empty from by first|exact d|exact AY d]
theorem vG (x:It):(⟨x.gI.toArray⟩:ByteArray).data.toList=x.gI:=by simp
theorem oU {s:ByteArray}{l:List UInt8}(h:l=s.data.toList):(⟨l.toArray⟩:ByteArray)=s:=aB (by simp[h])
theorem Ch {c:aN}(d:c.fm≠1){t:Ty}{x:It}(h:(bY c t x).2=0)(hz:x.gI.length<18446744073709551616):dz c t (bY c t x).1=(0,x)/\(bY c t x).1=⟨x.gI.toArray⟩:=by
 unfold bY at h⊢;rw[zh d]at h⊢;simp only at h⊢;rw[zi h];refine⟨?_,rfl⟩;obtain⟨b,a2⟩:=C' t x c.de c.it h ⟨x.gI.toArray⟩ (vG x) (by rw[<-aa,vG];exact hz);unfold dz;rw[zh d,b];unfold qu;rw[zh (by simp[b]),a2]
theorem MH {c:aN}{t:Ty}{s:ByteArray}(h:(dz c t s).1=0):bY c t (dz c t s).2=(s,0):=by
 unfold dz at h⊢;by_cases d:c.fm=1
 ·rw[zi d]at h⊢;obtain⟨b,a2⟩:=Iz t s c.it h;unfold bY;rw[zi d];unfold oS;rw[zi b,oU a2]
 rw[zh d]at h⊢;simp only at h⊢;obtain⟨b,a2⟩:=Da t s c.de c.it h;have e:qu t s c.de c.it=jf c.de c.it s:=by unfold qu;rw[zh (by simp[h])]
 rw[e];unfold bY;rw[zh d,zi b,b,oU a2]
theorem qw {c:aN}{l:List bC}{nm:ByteArray}{x:It}(h:(bI c l nm x).2=0):∃e,fG l nm=some e/\(bY c e.shape x).2=0/\(bI c l nm x).1=if c.fm=1 then⟨0,e.name,(bY c e.shape x).1⟩else⟨e.id,ByteArray.empty,(bY c e.shape x).1⟩:=by
 unfold bI at h⊢;cases hb:fG l nm with
 |none=>rw[hb]at h;cases h
 |some e=>
  rw[hb]at h;simp only at h⊢;by_cases b:(bY c e.shape x).2≠0
  ·rw[zi b]at h;exact absurd h b
  rw[zh b]at h⊢;exact⟨e,rfl,zC.1 b,by split<;>rfl⟩
theorem IC {c:aN}{l:List bC}(j:cT c l)(b:c.fm≠1){nm:ByteArray}{x:It}(h:(bI c l nm x).2=0)(hz:x.gI.length<18446744073709551616):eZ c l (bI c l nm x).1=(0,⟨nm,x⟩):=by
 obtain⟨e,k,i,n⟩:=qw h;obtain⟨d,rfl⟩:=nE k;obtain⟨m,_⟩:=Ch b i hz;rw[n,zh b];unfold eZ;rw[vF j d (by simp[mI,b])];simp only[m,xA]
theorem ID {c:aN}{l:List bC}(m:cT c l){f:Fr}(h:(eZ c l f).1=0):bI c l (eZ c l f).2.name (eZ c l f).2.x=(f,0):=by
 unfold eZ at h⊢;cases hb:fU c l f with
 |none=>rw[hb]at h;cases h
 |some e=>
  rw[hb]at h;simp only at h⊢;by_cases d:(dz c e.shape f.body).1=0
  ·rw[zi d]at h⊢;obtain⟨j,i⟩:=Dc hb;have k:=MH d;simp only;unfold bI;rw[MF m j];simp only[k];rw[zh (by simp)];by_cases b:c.fm=1
   ·rw[zi b,<-MG b i]
   rw[zh b,<-IB b i]
  rw[zh d]at h;split at h
  ·cases h
  exact absurd h d
theorem MK (c:aN)(l:List bC)(f:Fr):(eZ c l f).1≠2:=by
 unfold eZ;split
 ·simp
 split
 ·simp
 split
 ·simp
 assumption
theorem ML {c:aN}{l:List bC}{nm:ByteArray}{x:It}(h:(bI c l nm x).2≠0):(bI c l nm x).1=rG:=by
 unfold bI at h⊢;split
 ·rfl
 rename_i e d
 rw[d]at h;simp only at h⊢;by_cases b:(bY c e.shape x).2≠0
 ·rw[zi b]
 rw[zh b]at h;split at h<;>exact absurd rfl h
theorem KH {M:Int}{t:Ty}:∀(b:List Ty) (s:List It) (m i n:Nat),(∀j (h:j<b.length),t.at (i+j)=b[j])->m<=s.length->s.length<=b.length->
 (∀j (c:j<s.length) (k:j<b.length),∀(n:Nat) (q:List UInt8),(n:Int)+(s[j]).count<=M->(b[j]).rd M n ((s[j]).lay (b[j])++q)=⟨0,s[j],n+(s[j]).count,q⟩)->(n:Int)+aM s<=M->
 (om M b m n (cz s t i)).e=0/\(om M b m n (cz s t i)).q= []
 | [],s,m,i,n,_,_,hs,_,_=>by
  obtain rfl:s= []:=zo (by simpa using hs);simp[om,cz]
 |a::b,[],m,i,n,_,hm,_,_,_=>by
  have l:m=0:=by simpa using hm
  subst l;simp[om,cz]
 |a::b,x::xs,m,i,n,ha,hm,hs,hf,hM=>by
  simp only[aM]at hM;have e:=ha 0 (by simp);rw[y8]at e;have hx:=hf 0 (by simp) (by simp) n (cz xs t (i+1)) (by simp only[yQ];omega);simp only[yQ]at hx e;rw[cz,e,om,hx];by_cases d:m=0/\x.lay a++cz xs t (i+1)= []
  ·rw[zi d];exact⟨rfl,d.2⟩
  rw[zh d];simp only[ne_eq,yU,xG];exact KH b xs (m-1) (i+1) (n+x.count) (fun j c=>by have:=ha (j+1) (by simpa using c);simpa[show i+(j+1)=i+1+j from by omega]using this) (by simp at hm;omega) (by simpa using hs)
   (fun j c k=>by have:=hf (j+1) (by simpa using c) (by simpa using k);simpa using this) (by omega)
theorem Xa (M:Int)(w:M<=1024)(x:It)(t:Ty)(n:Nat)(r:t.right=true)(d:ca t.sub=true)(hi:x.dj t=true)(hx:x.right=true)(p:(n:Int)+x.count<=M):(t.rd M n (x.lay t)).e=0/\(t.rd M n (x.lay t)).q= []:=by
 by_cases o:t.kind=5
 ·obtain⟨O,b,s⟩:=x;obtain⟨k,z,l,m⟩:=t;simp only[Ty.Kk]at o;subst o;obtain⟨S,G⟩:=jM r;obtain⟨W,L⟩:=nt hx;have D:=vA L;have J:¬M<=(n:Int):=by simp only[It.count]at p;omega
  simp only[It.dj,zx]at hi;obtain⟨i,F⟩:=hi;have C:=lp s _ 0 F;simp only[zM]at C;simp only[Ty.gM]at d;replace i:=qs i;obtain⟨rfl,K,U⟩:=i;have u:∀j (h:j<l.length),(Ty.mk 5 z l m).at (0+j)=l[j]:=fun j h=>by unfold Ty.at;simp[h]
  simp only[It.count]at p;rw[nD,ur J];exact KH (M:=M) (t:= .mk 5 z l m) l s ((l.length:Int)-m).toNat 0 (n+1) u (by omega) K (fun j B e n q E=>by
   have I:=zN B;have c:=C j B;have A:=u j e;rw[zM]at A;rw[A]at c;have y:=Fq d j e;have H:=dQ G j e;generalize l[j]=a at*;obtain⟨R,N,al,at_⟩:=a;exact Pm M w _ _ n q H (lX y).2 (nC y c q) c (D _ I) E) (by omega)
 have:=Pm M w x t n [] r d (fun h=>absurd h o) hi hx p;rw[yO]at this;rw[this];exact⟨rfl,rfl⟩
theorem MM (t:Ty)(x:It)(M:Int)(h:jO t x M=0)(s:ByteArray)(i:s.data.toList=x.lay t):(jP t s M).1=0:=by
 obtain⟨c,j,q⟩:=MB h;obtain⟨_,n,_,_,e⟩:=lY c;obtain⟨_,l,k⟩:=B9 j;obtain⟨d,p,o⟩:=sY l;have b:=Xa (min M 1024) (by omega) x t 0 n e k d (by omega);rw[<-i]at b;change(oK t s M).e=0/\(oK t s M).q= []at b
 have m:dk t s M=(0,(oK t s M).x,s.size):=by unfold dk;rw[zh (by simp[c]),zh (by simp[b.1]),b.2];simp
 unfold jP;rw[m];simp
def aL (c:aN)(l:List bC)(s:ByteArray):Int×Ms×Nat×Nat:=
 if(aK c s).1≠0 then((aK c s).1,qv,(aK c s).2.2.1,(aK c s).2.2.2)else((eZ c l (aK c s).2.1).1,(eZ c l (aK c s).2.1).2,(aK c s).2.2.1,(aK c s).2.2.2)
theorem Dd {c:aN}{l:List bC}{s:ByteArray}(h:(aK c s).1≠0):aL c l s=((aK c s).1,qv,(aK c s).2.2.1,(aK c s).2.2.2):=by unfold aL;rw[zi h]
theorem vH {c:aN}{l:List bC}{s:ByteArray}(h:(aK c s).1=0):aL c l s=((eZ c l (aK c s).2.1).1,(eZ c l (aK c s).2.1).2,(aK c s).2.2.1,(aK c s).2.2.2):=by unfold aL;rw[zh (by simp[h])]
theorem iU {c:aN}{l:List bC}{s:ByteArray}:(aL c l s).1=2↔(aK c s).1=2:=by
 by_cases h:(aK c s).1=0
 ·rw[vH h,h];exact⟨fun b=>absurd b (MK _ _ _),(by intro h;cases h)⟩
 rw[Dd h]
theorem Ci {c:aN}{l:List bC}{s:ByteArray}(h:(aL c l s).1=0):(aK c s).1=0/\(eZ c l (aK c s).2.1).1=0:=by
 by_cases b:(aK c s).1=0
 ·rw[vH b]at h;exact⟨b,h⟩
 rw[Dd b]at h;exact absurd h b
theorem gj (c:aN)(l:List bC)(s:ByteArray):(aL c l s).2.2=(aK c s).2.2:=by unfold aL;split<;>rfl
theorem bX (c:aN)(l:List bC):jK (aL c l):=by
 have b:=gR c;refine⟨fun s h=> ?_,fun s t h=> ?_,fun s h=> ?_⟩
 ·have:=b.pos s (Ci h).1;rw[gj];exact this
 ·have e:=b.ext s t (fun d=>h (iU.2 d));unfold aL;rw[e]
 rw[gj];exact b.short s (iU.1 h)
theorem Cj {c:aN}(b:c.right=true)(l:List bC):(aL c l ByteArray.empty).1=2:=iU.2 (Im b)
def cL (c:aN)(l:List bC)(nm:ByteArray)(x:It):ByteArray×Int:=if(bI c l nm x).2≠0 then(ByteArray.empty,(bI c l nm x).2)else fx c (bI c l nm x).1
theorem FA {c:aN}{l:List bC}{nm:ByteArray}{x:It}(h:(cL c l nm x).2=0):(bI c l nm x).2=0/\cL c l nm x=fx c (bI c l nm x).1:=by
 unfold cL at h⊢;by_cases b:(bI c l nm x).2≠0
 ·rw[zi b]at h;exact absurd h b
 rw[zh b];exact⟨zC.1 b,rfl⟩
theorem Px {c:aN}{f:Fr}(h:(fx c f).2≠0):(fx c f).1=ByteArray.empty:=by
 unfold fx at h⊢;split
 ·split
  ·rfl
  split
  ·rfl
  rename_i d b e
  rw[zi d,zh b,zh e]at h;exact absurd rfl h
 rfl
def Py (l:List bC):Prop:=∀e∈l,e.id<18446744073709551616
theorem FB {c:aN}{l:List bC}(hid:Py l){nm:ByteArray}{x:It}(h:(bI c l nm x).2=0):(bI c l nm x).1.id<18446744073709551616:=by
 obtain⟨e,b,_,d⟩:=qw h;rw[d];split
 ·simp
 exact hid e (nE b).1
theorem TN {c:aN}{l:List bC}(j:cT c l){nm:ByteArray}{x:It}(h:(bI c l nm x).2=0)(hz:x.gI.length<18446744073709551616):
 ∃y,eZ c l (bI c l nm x).1=(0,⟨nm,y⟩)/\(c.fm≠1->y=x)/\bI c l nm y=((bI c l nm x).1,0):=by
 by_cases b:c.fm=1
 ·obtain⟨e,p,d,k⟩:=qw h;obtain⟨n,rfl⟩:=nE p;rw[zi b]at k;have m:fU c l (bI c l e.name x).1=some e:=vF j n (by rw[k];simp[mI,b]);have o:(dz c e.shape (bY c e.shape x).1).1=0:=by
   unfold bY at d⊢;rw[zi b]at d⊢;unfold dz;rw[zi b];unfold oS at d⊢;by_cases i:jO e.shape x c.it=0
   ·rw[zi i];exact MM e.shape x c.it i _ (by simp)
   rw[zh i]at d;exact absurd d i
  have hd:eZ c l (bI c l e.name x).1=(0,⟨e.name,(dz c e.shape (bY c e.shape x).1).2⟩):=by
   unfold eZ;rw[m];simp only[k,o,xA]
  refine⟨_,hd,fun h=>absurd b h, ?_⟩;have:=ID j (f:=(bI c l e.name x).1) (by rw[hd]);rw[hd]at this;exact this
 have hd:=IC j b h hz;refine⟨x,hd,fun _=>rfl,ZH rfl h⟩
theorem TO {c:aN}{l:List bC}(i:c.right=true)(p:cT c l)(hid:Py l){nm:ByteArray}{x:It}(h:(cL c l nm x).2=0)(hz:x.gI.length<18446744073709551616):
 ∃y k,(∀T,aL c l ((cL c l nm x).1++T)=(0,⟨nm,y⟩,(cL c l nm x).1.size,k))/\(c.fm≠1->y=x)/\cL c l nm y=cL c l nm x:=by
 obtain⟨j,d⟩:=FA h;obtain⟨y,hd,q,o⟩:=TN p j hz;have r:fx c (bI c l nm x).1=((cL c l nm x).1,0):=by rw[<-d];exact ZH rfl h
 have n:=fun T=>(Pe (FB hid j) r T).1
 obtain⟨k,b⟩:=n ByteArray.empty;have m:∀T,aK c ((cL c l nm x).1++T)=(0,(bI c l nm x).1,(cL c l nm x).1.size,k):=fun T=>by
  have e:=(gR c).ext (cL c l nm x).1 T (by rw[bz i];rw[lj]at b;rw[b];simp);rw[e,bz i];rw[lj]at b;exact b
 refine⟨y,k,fun T=> ?_,q, ?_⟩
 ·rw[vH (by rw[m]),m,hd]
 rw[d];unfold cL;rw[o,zh (by simp)]
theorem Pz {c:aN}{l:List bC}(b:c.right=true)(i:cT c l)(hid:Py l){nm:ByteArray}{x:It}(h:(cL c l nm x).2=0)(hz:x.gI.length<18446744073709551616):
 ∃y k,(∀T,split (aL c l) ((cL c l nm x).1++T)=(split (aL c l) T).cons ⟨nm,y⟩ k)/\split (aL c l) (cL c l nm x).1=([⟨nm,y⟩],ByteArray.empty,k,0)/\(c.fm≠1->y=x)/\cL c l nm y=cL c l nm x:=by
 obtain⟨y,k,d,e,j⟩:=TO b i hid h hz;have key:∀T,split (aL c l) ((cL c l nm x).1++T)=(split (aL c l) T).cons ⟨nm,y⟩ k:=fun T=>by
  rw[cY (bX c l) (by rw[d]),d];simp only;rw[Kh _ _ _ (zd _)];have:(cL c l nm x).1.extract (cL c l nm x).1.size (cL c l nm x).1.size++T=T:=by
   apply aB;rw[aP,an,cQ,zI (by rw[aa];exact zd _),yu]
  rw[this]
 refine⟨y,k,key, ?_,e,j⟩;have:=key ByteArray.empty;rw[lj,dv (bX c l) (Cj b l)]at this;rw[this];rfl
theorem PA {c:aN}(b:c.right=true){l:List bC}{s:ByteArray}(h:(aL c l s).1=2):(s.size:Int)<max (sU c) 10:=Il b (by rw[<-bz b];exact iU.1 h)
theorem oq (c:aN)(s:ByteArray):(aK c s).2.2.2<=65536:=by
 unfold aK;by_cases b:c.right=true
 ·rw[zi b];have:=(c.bW).1 b;unfold bd;split
  ·exact yc _
  split
  ·exact yc _
  show(aR c.fr c.un s).2.2.2.2<=65536
  rw[bu];split
  ·exact yc _
  split
  ·exact yc _
  split
  ·exact yc _
  rename_i h
  split
  ·show(ay (ai c.fr s).2.2.1).1<=65536;omega
  show(ay (ai c.fr s).2.2.1).1<=65536;omega
 rw[zh b];exact yc _
theorem abm (c:aN)(s:ByteArray):(split (aK c) s).2.2.1<=65536*(s.size+1):=by
 have h:=gR c;induction s using dN h with
 |stop s h0=>
  rw[eB h,zh h0];have:=oq c s;show(aK c s).2.2.2<=_
  omega
 |go s h0 ih=>
  rw[cY h h0];obtain⟨d,b⟩:=h.pos s h0;have e:=ie s _ d b;have:=oq c s;show(aK c s).2.2.2+(split (aK c) (s.extract (aK c s).2.2.1 s.size)).2.2.1<=_
  have:65536*((s.extract (aK c s).2.2.1 s.size).size+1)<=65536*s.size:=Nat.mul_le_mul_left _ (by omega);omega
theorem IE (c:aN)(s:ByteArray)(d:s.size<=1099511627776):(aK c s).2.1.body.size<=1099511627776:=by
 by_cases b:c.right=true
 ·have h:=(c.bW).1 b;rw[bz b];have:=(My c s).2;omega
 have e:aK c s=(1,rG,0,0):=by unfold aK;rw[zh b]
 rw[e];exact yc _
structure jq {α:Type}(nx:Nx α)(x:eU)(s:ByteArray)(l:List α):Prop where
 fault:x.fault=(split nx s).2.2.2
 told:l=(split nx s).1
 buf:x.fault=0->x.buf=(split nx s).2.1
theorem jq.new {c:Type}{b:Nx c}(h:jK b)(d:(b ByteArray.empty).1=2):jq b eU.new ByteArray.empty ([]:List c):=by
 have:=dv h d;exact⟨by rw[this];rfl,by rw[this],fun _=>by rw[this];rfl⟩
theorem jq.mX {d:Type}{c:Nx d}(h:jK c){x:eU}{s:ByteArray}{l:List d}(hx:jq c x s l)(t:ByteArray):jq c (mX c x t).1 (s++t) (l++(mX c x t).2.1):=by
 by_cases b:x.fault=0
 ·have e:=uN h s t (by rw[<-hx.fault];exact b);rw[fq b,hx.buf b,hx.told];exact⟨by rw[e],by rw[e],fun _=>by rw[e]⟩
 have e:=uM h s t;rw[zh (by rw[<-hx.fault];exact b)]at e;rw[fY b,hx.told];exact⟨by rw[e];exact hx.fault,by rw[e];simp,fun i=>absurd i b⟩
theorem jq.same {c:Type}{d:Nx c}{x y:eU}{s:ByteArray}{l m:List c}(hx:jq d x s l)(b:jq d y s m):l=m/\x.fault=y.fault/\(x.fault=0->x.buf=y.buf):=
 ⟨hx.told.trans b.told.symm,hx.fault.trans b.fault.symm,fun h=>(hx.buf h).trans (b.buf (by rw[b.fault,<-hx.fault];exact h)).symm⟩
theorem aft (c:aN)(l:List bC)(s:ByteArray):(split (aL c l) s).2.2.2=0->(split (aK c) s).2.2.2=0/\(split (aK c) s).2.1=(split (aL c l) s).2.1/\(split (aK c) s).2.2.1=(split (aL c l) s).2.2.1/\(split (aK c) s).1.length=(split (aL c l) s).1.length:=by
 induction s using dN (bX c l)with
 |stop s h0=>
  intro h;by_cases b:(aL c l s).1=2
  ·rw[dv (bX c l) b,dv (gR c) (iU.1 b)];exact⟨rfl,rfl,rfl,rfl⟩
  rw[k8 (bX c l) h0 b]at h;exact absurd h h0
 |go s h0 ih=>
  intro h;have i:=(Ci h0).1;have hz:=gj c l s;rw[cY (bX c l) h0]at h⊢;rw[cY (gR c) i];have e:(aL c l s).2.2.1=(aK c s).2.2.1:=by rw[hz]
  have b:(aL c l s).2.2.2=(aK c s).2.2.2:=by rw[hz]
  rw[e]at ih h⊢;obtain⟨d,a2,a3,a4⟩:=ih h;refine⟨d,a2, ?_, ?_⟩
  ·show(aK c s).2.2.2+_=(aL c l s).2.2.2+_
   rw[b,a3]
  show(_::_).length=(_::_).length
  simp only[zw];rw[a4]
theorem afu {c:aN}(d:c.fm≠3)(l:List bC)(s:ByteArray):(split (aL c l) s).2.2.1=0:=by
 have b:∀s,(aL c l s).2.2.2=0:=fun s=>by rw[gj];exact Is d s
 induction s using dN (bX c l)with
 |stop s h0=>rw[eB (bX c l),zh h0];exact b s
 |go s h0 ih=>
  rw[cY (bX c l) h0];show(aL c l s).2.2.2+_=0
  rw[b,ih]
theorem acg {c:aN}(d:c.right=true)(h:c.fm=3)(l:List bC)(s:ByteArray):((split (aL c l) s).2.2.1:Int)<=c.un*(((split (aL c l) s).1.length:Int)+1):=by
 have b:∀s,((aL c l s).2.2.2:Int)<=c.un:=fun s=>by rw[gj];exact(Fj d h s).2
 induction s using dN (bX c l)with
 |stop s h0=>
  rw[eB (bX c l),zh h0];have:=b s;simpa using this
 |go s h0 ih=>
  rw[cY (bX c l) h0];have:=b s;have e:c.un*(((((split (aL c l) (s.extract (aL c l s).2.2.1 s.size)).1.length+1:Nat)):Int)+1)=c.un+c.un*(((split (aL c l) (s.extract (aL c l s).2.2.1 s.size)).1.length:Int)+1):=by
   rw[Int.natCast_add,Int.mul_add,Int.mul_add,Int.mul_add];simp;omega
  show(((aL c l s).2.2.2+(split (aL c l) (s.extract (aL c l s).2.2.1 s.size)).2.2.1:Nat):Int)<=c.un*(((((split (aL c l) (s.extract (aL c l s).2.2.1 s.size)).1.length+1:Nat)):Int)+1)
  rw[e,Int.natCast_add];omega
theorem agB {c:aN}(d:c.right=true)(l:List bC)(s:ByteArray)(b:(split (aL c l) s).2.2.2=0):((split (aL c l) s).2.1.size:Int)<max (sU c) 10:=
 PA d ((uL (bX c l) s).1 b)
theorem IF (c:aN)(l:List bC)(s:ByteArray):(split (aL c l) s).1.length<=s.size:=by
 induction s using dN (bX c l)with
 |stop s h0=>rw[eB (bX c l),zh h0];simp
 |go s h0 ih=>
  obtain⟨d,b⟩:=(bX c l).pos s h0;have hz:(s.extract (aL c l s).2.2.1 s.size).size=s.size-(aL c l s).2.2.1:=aj _ _ _ (zd _);rw[cY (bX c l) h0];show(_::_).length<=_
  simp only[zw];omega
theorem IG (c:aN)(l:List bC)(s:ByteArray):(split (aL c l) s).2.1.size<=s.size:=by
 obtain⟨k,b,e⟩:=mr (bX c l) s;rw[e,aj _ _ _ (zd _)];omega
theorem Xb (c:aN)(l:List bC)(s:ByteArray):(split (aL c l) s).2.2.1<=65536*(s.size+1):=by
 have h:=bX c l;have b:∀s,(aL c l s).2.2.2<=65536:=fun s=>by rw[gj];exact oq c s
 induction s using dN h with
 |stop s h0=>
  rw[eB h,zh h0];have:=b s;show(aL c l s).2.2.2<=_
  omega
 |go s h0 ih=>
  rw[cY h h0];obtain⟨e,d⟩:=h.pos s h0;have i:=ie s _ e d;have:=b s;show(aL c l s).2.2.2+(split (aL c l) (s.extract (aL c l s).2.2.1 s.size)).2.2.1<=_
  have:65536*((s.extract (aL c l s).2.2.1 s.size).size+1)<=65536*s.size:=Nat.mul_le_mul_left _ (by omega);omega
theorem lt_of_cell {w:World}{b o:Nat}{v:Value}(h:w.cell? ⟨b,o,none⟩=some v):b<w.heap.size:=by
 rcases xC b w.heap.size with h'|h'
 ·exact h'
 simp[World.cell?,xQ h']at h
mutual
def dg (w:World)(B:Nat):It->Value->Value->Value->Prop
 | .mk t l s,c0,c1,c2=>c0= .string t/\c1= .bool l/\t.size<=9223372036854775807/\s.length<=9223372036854775807/\∃A cap,c2= .slice A s.length cap/\s.length<=cap/\cap<=9223372036854775807/\cc w B s A 0
def cc (w:World)(B:Nat):List It->Option Addr->Nat->Prop
 | [],_,_=>True
 |x::xs,A,i=>(∃b o c0 c1 c2,A=some ⟨b,o,none⟩/\b<B/\w.cell? ⟨b,o+i*3,none⟩=some c0/\w.cell? ⟨b,o+i*3+1,none⟩=some c1/\w.cell? ⟨b,o+i*3+2,none⟩=some c2/\dg w B x c0 c1 c2)/\cc w B xs A (i+1)
end
theorem cc.at_ {w:World}{B:Nat}{A:Option Addr}:∀{s:List It} {i:Nat},cc w B s A i->∀(j:Nat) (h:j<s.length),∃b o c e d,A=some ⟨b,o,none⟩/\b<B/\w.cell? ⟨b,o+(i+j)*3,none⟩=some c/\w.cell? ⟨b,o+(i+j)*3+1,none⟩=some e/\w.cell? ⟨b,o+(i+j)*3+2,none⟩=some d/\dg w B s[j] c e d
 | [],_,_,j,h=>by simp at h
 |x::xs,i,hi,0,_=>by simpa[cc]using hi.1
 |x::xs,i,hi,j+1,h=>by
  have:=cc.at_ hi.2 j (by simpa using h);rw[show i+1+j=i+(j+1)from by omega]at this;simpa using this
theorem cc.G6 {w:World}{B:Nat}{A:Option Addr}:∀{s:List It} {i:Nat},(∀(j:Nat) (h:j<s.length),∃b o c e d,A=some ⟨b,o,none⟩/\b<B/\w.cell? ⟨b,o+(i+j)*3,none⟩=some c/\w.cell? ⟨b,o+(i+j)*3+1,none⟩=some e/\w.cell? ⟨b,o+(i+j)*3+2,none⟩=some d/\dg w B s[j] c e d)->cc w B s A i
 | [],_,_=>by simp[cc]
 |x::xs,i,h=>by
  refine⟨h 0 (Nat.zero_lt_succ _),cc.G6 fun j k=> ?_⟩;have:=h (j+1) (by simpa using k);rw[show i+(j+1)=i+1+j from by omega]at this;simpa using this
theorem dg.open_ {w:World}{B:Nat}{x:It}{b c d:Value}(h:dg w B x b c d):∃A cap,b= .string x.text/\c= .bool x.list/\d= .slice A x.sub.length cap/\x.text.size<=9223372036854775807/\x.sub.length<=cap/\cap<=9223372036854775807/\cc w B x.sub A 0:=by
 cases x with
 |mk t l s=>
  obtain⟨k,n,i,p,A,cap,m,e,j,o⟩:=h;exact⟨A,cap,k,n,m,i,e,j,o⟩
theorem dg.ag {w w':World}{B m:Nat}(J:B<=m)(k:∀p:Addr,p.block<B->w'.cell? p=w.cell? p):∀(x:It) {d i e:Value},dg w B x d i e->dg w' m x d i e:=by
 intro x;induction x using It.ind with
 |h t l s ih=>
  intro d i e h;obtain⟨z,I,E,y,A,cap,C,q,F,u⟩:=h;refine⟨z,I,E,y,A,cap,C,q,F,cc.G6 fun j n=> ?_⟩;obtain⟨b,o,d0,d1,d2,G,c,D,r,H,hi⟩:=u.at_ j n;exact⟨b,o,d0,d1,d2,G,by omega,(k _ c).trans D,(k _ c).trans r,(k _ c).trans H,ih _ (zN n) hi⟩
theorem dg.below {w w':World}{B:Nat}{x:It}{b c d:Value}(h:dg w B x b c d)(e:Below B w w'):dg w' B x b c d:=dg.ag (zd _) (fun _ i=>e.cell i) x h
theorem dg.mono {w:World}{B b:Nat}{x:It}{c d e:Value}(h:dg w B x c d e)(i:B<=b):dg w b x c d e:=dg.ag i (fun _ _=>rfl) x h
theorem cc.below {w w':World}{B i:Nat}{s:List It}{A:Option Addr}(h:cc w B s A i)(c:Below B w w'):cc w' B s A i:=cc.G6 fun j e=>by
 obtain⟨b,o,d0,d1,d2,n,d,k,m,l,hi⟩:=h.at_ j e;exact⟨b,o,d0,d1,d2,n,d,(c.cell d).trans k,(c.cell d).trans m,(c.cell d).trans l,hi.below c⟩
theorem dg.one {w:World}{B:Nat}{x:It}{d c b:Value}(h:dg w B x d c b):d.oneCell'=true/\c.oneCell'=true/\b.oneCell'=true:=by
 obtain⟨A,cap,rfl,rfl,rfl,_⟩:=h.open_;exact⟨rfl,rfl,rfl⟩
def jg (w:World)(B:Nat):List It->List Value->Prop
 | [],cs=>cs= []
 |x::xs,cs=>∃c0 c1 c2 ds,cs=c0::c1::c2::ds/\dg w B x c0 c1 c2/\jg w B xs ds
theorem jg.length {w:World}{B:Nat}:∀{s:List It} {b:List Value},jg w B s b->b.length=s.length*3
 | [],b,h=>by simp[jg]at h;simp[h]
 |x::xs,b,h=>by
  obtain⟨d,e,i,j,rfl,_,c⟩:=h;have:=c.length;simp only[zw,this];omega
theorem jg.one {w:World}{B:Nat}:∀{s:List It} {b:List Value},jg w B s b->∀u∈b,u.oneCell'=true
 | [],b,h=>by simp[jg]at h;simp[h]
 |x::xs,b,h=>by
  obtain⟨k,j,l,m,rfl,e,d⟩:=h;have c:=e.one;have i:=d.one;intro u hu;simp only[y9]at hu;rcases hu with rfl|rfl|rfl|hu
  ·exact c.1
  ·exact c.2.1
  ·exact c.2.2
  exact i u hu
theorem jg.ag {w w':World}{B c:Nat}(e:B<=c)(d:∀p:Addr,p.block<B->w'.cell? p=w.cell? p):∀{s:List It} {b:List Value},jg w B s b->jg w' c s b
 | [],b,h=>h
 |x::xs,b,h=>by
  obtain⟨j,i,l,m,rfl,n,k⟩:=h;exact⟨j,i,l,m,rfl,dg.ag e d x n,k.ag e d⟩
theorem cc.cells {w:World}{B:Nat}{b o:Nat}:∀{s:List It} {i:Nat},cc w B s (some ⟨b,o,none⟩) i->∃e,jg w B s e/\∀j u,e[j]?=some u->w.cell? ⟨b,o+i*3+j,none⟩=some u
 | [],i,_=>⟨[],rfl,by simp⟩
 |x::xs,i,h=>by
  obtain⟨⟨z,A,d,k,l,c,_,q,y,r,hi⟩,p⟩:=h;injection c with c;injection c with hb ho;subst hb;subst ho;obtain⟨m,hd,n⟩:=p.cells;refine⟨d::k::l::m,⟨d,k,l,m,rfl,hi,hd⟩,fun j u hu=> ?_⟩;match j,hu with
  |0,hu=>simp at hu;subst hu;exact q
  |1,hu=>simp at hu;subst hu;exact y
  |2,hu=>simp at hu;subst hu;exact r
  |j+3,hu=>
   have:=n j u (by simpa using hu);rw[show o+i*3+(j+3)=o+(i+1)*3+j from by omega];exact this
theorem cc.fa {w:World}{B:Nat}{b o:Nat}(d:b<B):∀{s:List It} {i:Nat} {c:List Value},jg w B s c->(∀j u,c[j]?=some u->w.cell? ⟨b,o+i*3+j,none⟩=some u)->cc w B s (some ⟨b,o,none⟩) i
 | [],_,_,_,_=>trivial
 |x::xs,i,c,h,hc=>by
  obtain⟨k,e,l,p,rfl,n,m⟩:=h;refine⟨⟨b,o,k,e,l,rfl,d,by simpa using hc 0 k (by simp),hc 1 e (by simp),hc 2 l (by simp),n⟩,cc.fa d m fun j u hu=> ?_⟩;have:=hc (j+3) u (by simpa using hu);rw[show o+(i+1)*3+j=o+i*3+(j+3)from by omega];exact this
def mJ (i:Int):Prop:= -9223372036854775808<=i/\i<=9223372036854775807
mutual
def cD (w:World)(B:Nat):Ty->Value->Value->Value->Value->Prop
 | .mk k s l t,c0,c1,c2,c3=>c0= .int .i64 k/\c1= .int .i64 s/\c3= .int .i64 t/\mJ k/\mJ s/\mJ t/\l.length<=9223372036854775807/\∃A cap,c2= .slice A l.length cap/\l.length<=cap/\cap<=9223372036854775807/\fc w B l A 0
def fc (w:World)(B:Nat):List Ty->Option Addr->Nat->Prop
 | [],_,_=>True
 |x::xs,A,i=>(∃b o c0 c1 c2 c3,A=some ⟨b,o,none⟩/\b<B/\w.cell? ⟨b,o+i*4,none⟩=some c0/\w.cell? ⟨b,o+i*4+1,none⟩=some c1/\w.cell? ⟨b,o+i*4+2,none⟩=some c2/\w.cell? ⟨b,o+i*4+3,none⟩=some c3/\cD w B x c0 c1 c2 c3)/\fc w B xs A (i+1)
end
theorem fc.at_ {w:World}{B:Nat}{A:Option Addr}:∀{s:List Ty} {i:Nat},fc w B s A i->∀(j:Nat) (h:j<s.length),∃b o c k d e,A=some ⟨b,o,none⟩/\b<B/\w.cell? ⟨b,o+(i+j)*4,none⟩=some c/\w.cell? ⟨b,o+(i+j)*4+1,none⟩=some k/\w.cell? ⟨b,o+(i+j)*4+2,none⟩=some d/\w.cell? ⟨b,o+(i+j)*4+3,none⟩=some e/\cD w B s[j] c k d e
 | [],_,_,j,h=>by simp at h
 |x::xs,i,hi,0,_=>by simpa[fc]using hi.1
 |x::xs,i,hi,j+1,h=>by
  have:=fc.at_ hi.2 j (by simpa using h);rw[show i+1+j=i+(j+1)from by omega]at this;simpa using this
theorem fc.G6 {w:World}{B:Nat}{A:Option Addr}:∀{s:List Ty} {i:Nat},(∀(j:Nat) (h:j<s.length),∃b o c d e k,A=some ⟨b,o,none⟩/\b<B/\w.cell? ⟨b,o+(i+j)*4,none⟩=some c/\w.cell? ⟨b,o+(i+j)*4+1,none⟩=some d/\w.cell? ⟨b,o+(i+j)*4+2,none⟩=some e/\w.cell? ⟨b,o+(i+j)*4+3,none⟩=some k/\cD w B s[j] c d e k)->fc w B s A i
 | [],_,_=>by simp[fc]
 |x::xs,i,h=>by
  refine⟨h 0 (Nat.zero_lt_succ _),fc.G6 fun j l=> ?_⟩;have:=h (j+1) (by simpa using l);rw[show i+(j+1)=i+1+j from by omega]at this;simpa using this
theorem cD.open_ {w:World}{B:Nat}{x:Ty}{b c d e:Value}(h:cD w B x b c d e):∃A cap,b= .int .i64 x.kind/\c= .int .i64 x.size/\d= .slice A x.sub.length cap/\e= .int .i64 x.tail/\mJ x.kind/\mJ x.size/\mJ x.tail/\x.sub.length<=cap/\cap<=9223372036854775807/\fc w B x.sub A 0:=by
 cases x with
 |mk k s l t=>
  obtain⟨p,r,y,o,m,j,z,A,cap,q,i,n,u⟩:=h;exact⟨A,cap,p,r,q,y,o,m,j,i,n,u⟩
theorem cD.ag {w w':World}{B q:Nat}(R:B<=q)(d:∀p:Addr,p.block<B->w'.cell? p=w.cell? p):∀(x:Ty) {e n i m:Value},cD w B x e n i m->cD w' q x e n i m:=by
 intro x;induction x using Ty.ind with
 |h k s l t ih=>
  intro e n i m h;obtain⟨G,O,D,E,F,J,u,A,cap,H,y,K,C⟩:=h;refine⟨G,O,D,E,F,J,u,A,cap,H,y,K,fc.G6 fun j r=> ?_⟩;obtain⟨b,o,d0,d1,d2,d3,L,c,I,z,N,M,hi⟩:=C.at_ j r;exact⟨b,o,d0,d1,d2,d3,L,by omega,(d _ c).trans I,(d _ c).trans z,(d _ c).trans N,(d _ c).trans M,ih _ (zN r) hi⟩
theorem cD.below {w w':World}{B:Nat}{x:Ty}{b c d e:Value}(h:cD w B x b c d e)(i:Below B w w'):cD w' B x b c d e:=cD.ag (zd _) (fun _ j=>i.cell j) x h
theorem cD.mono {w:World}{B b:Nat}{x:Ty}{c d e i:Value}(h:cD w B x c d e i)(j:B<=b):cD w b x c d e i:=cD.ag j (fun _ _=>rfl) x h
theorem fc.ag {w w':World}{B e:Nat}(u:B<=e)(c:∀p:Addr,p.block<B->w'.cell? p=w.cell? p){s:List Ty}{A:Option Addr}{i:Nat}(h:fc w B s A i):fc w' e s A i:=fc.G6 fun j r=>by
 obtain⟨b,o,d0,d1,d2,d3,l,d,m,q,n,k,hi⟩:=h.at_ j r;exact⟨b,o,d0,d1,d2,d3,l,by omega,(c _ d).trans m,(c _ d).trans q,(c _ d).trans n,(c _ d).trans k,hi.ag u c⟩
theorem fc.below {w w':World}{B i:Nat}{s:List Ty}{A:Option Addr}(h:fc w B s A i)(b:Below B w w'):fc w' B s A i:=h.ag (zd _) (fun _ c=>b.cell c)
theorem aU {w:World}{g:Nat}{t:TypeId}{a b c d:Value}(h:af w g t #[a,b,c,d]):w.cell? ⟨g,0,none⟩=some a/\w.cell? ⟨g,1,none⟩=some b/\w.cell? ⟨g,2,none⟩=some c/\w.cell? ⟨g,3,none⟩=some d/\w.frozen? ⟨g,0,none⟩=false/\w.frozen? ⟨g,1,none⟩=false/\w.frozen? ⟨g,2,none⟩=false/\w.frozen? ⟨g,3,none⟩=false:=
 ⟨h.cell 0,h.cell 1,h.cell 2,h.cell 3,h.frozen 0,h.frozen 1,h.frozen 2,h.frozen 3⟩
theorem MN {w w':World}{t:TypeId}{a b c d:Value}(e:Below (w.heap.size+1) (w.alloc (.cells #[a,b,c,d] t)) w'):w'.cell? ⟨w.heap.size,0,none⟩=some a/\w'.cell? ⟨w.heap.size,1,none⟩=some b/\w'.cell? ⟨w.heap.size,2,none⟩=some c/\w'.cell? ⟨w.heap.size,3,none⟩=some d:=by
 have i:=af.new w t #[a,b,c,d];have h:af w' w.heap.size t #[a,b,c,d]:=(e.block _ (by omega)).trans i;exact⟨h.cell 0,h.cell 1,h.cell 2,h.cell 3⟩
theorem Ck (n:Nat):(madeCells #[Value.int .u8 0] n).toList=cb (List.replicate n 0):=by
 have:=vf n;rw[xW]at this;exact this
theorem MO (n:Nat):(madeCells #[Value.int .u8 0] n).size=n:=by
 have:=xi List.length (Ck n);rw[bs,xw]at this;simpa using this
theorem mu {P:Program}(w:World){ops:Array Oper}{rest:List Oper}{o:Oper}{a:Act}{Q:Exit->Act->World->Prop}
 (z:o.guard=none) (l c:Operand) (t:TypeId) (B:o.op=Op.makeSlice t l c)
 (base:Nat) (e:TypeId) (i:TypeInfo) (s:P.underlying t=some (.slice e)) (hi:P.info? e=some i) (hz:i.zero=some (.int .u8 0)) (x:i.size=1) (u:i.bytes=1)
 (p j:IntKind) (m n:Nat) (q:a.eval l= .int p (m:Int)) (r:a.eval c= .int j (n:Int)) (h:m<=n) (D:n<=281474976710656) (b:base<=w.heap.size)
 (C:∀w',bL w' base e (.slice (some ⟨w.heap.size,0,none⟩) m n) (List.replicate m 0)->Kept e base w w'->Below w.heap.size w w'->wpList P ops Q rest (a.put o.dst (.slice (some ⟨w.heap.size,0,none⟩) m n)) w'):
 wpList P ops Q (o::rest) a w:=by
 refine wpList_plain z fun K A=> ?_
 have k:=run_make (P:=P) w t e i (.int .u8 0) s hi hz p j m n (by omega) (by omega) (by rw[u];omega) (by omega);simp only[Int.toNat_natCast,x,xW]at k;have y:bL (w.alloc (.cells (madeCells #[Value.int .u8 0] n) e)) base e (.slice (some ⟨w.heap.size,0,none⟩) m n) (List.replicate m 0):=by
  refine⟨some ⟨w.heap.size,0,none⟩,n,by rw[xw],by rw[xw];exact h,by omega,.inr ⟨w.heap.size,madeCells #[Value.int .u8 0] n,(0,0),rfl,b,yM w _,MO n, ?_,.inl rfl⟩⟩;rw[xw,Ck,<-Tq,List.take_replicate,yw h]
 have d:Below w.heap.size w (w.alloc (.cells (madeCells #[Value.int .u8 0] n) e)):=(zl _ w).alloc (zd _) _;unfold Oper.wp;simp[execOp,B,q,r,k,Result.andThen];exact A _ _ (C _ y (Kept.ah d (zd _) b) d)
def fH (L:List UInt8)(a b:Nat):Prop:=L[a]?=L[b]?/\L[a+1]?=L[b+1]?/\L[a+2]?=L[b+2]?/\L[a+3]?=L[b+3]?
instance (L :List UInt8)(a b:Nat):Decidable (fH L a b):=by unfold fH;infer_instance
theorem fH.symm {L:List UInt8}{a b:Nat}(h:fH L a b):fH L b a:=⟨h.1.symm,h.2.1.symm,h.2.2.1.symm,h.2.2.2.symm⟩
theorem fH.trans {L:List UInt8}{a b c:Nat}(h:fH L a b)(k:fH L b c):fH L a c:=⟨h.1.trans k.1,h.2.1.trans k.2.1,h.2.2.1.trans k.2.2.1,h.2.2.2.trans k.2.2.2⟩
def jQ (L:List UInt8)(a:Nat):Nat->Option Nat
 |0=>none
 |n+1=>if n+4<=L.length/\fH L n a then some n else jQ L a n
theorem mt4 (L:List UInt8)(j i:Nat)(h:j<i)(hi:i<=L.length):4<=mt L j i 64↔i+4<=L.length/\fH L j i:=by
 constructor
 ·intro c;have b:=(BX L 64 j i).2 hi;exact⟨by omega,EW L 64 j i 0 (by omega),EW L 64 j i 1 (by omega),EW L 64 j i 2 (by omega),EW L 64 j i 3 (by omega)⟩
 rintro⟨b,g0,g1,g2,g3⟩;have d:mt L j i 64=mt L (j+4) (i+4) 60+4:=by
  rw[mt,zi ⟨by omega,g0⟩,mt,zi ⟨by omega,g1⟩,mt,zi ⟨by omega,g2⟩,mt,zi ⟨by omega,g3⟩]
 omega
theorem vI (L:List UInt8)(i:Nat)(hi:i<=L.length)(h:¬i+4<=L.length):∀k,k<=i->Ia L i k=none:=by
 intro k;induction k with
 |zero=>intro _;rfl
 |succ k ih=>
  intro c;rw[Ia,zh (by rw[mt4 L k i (by omega) hi];exact fun b=>h b.1)];exact ih (by omega)
theorem PC (L:List UInt8)(i:Nat)(hi:i+4<=L.length):∀k,k<=i->Ia L i k=jQ L i k:=by
 intro k;induction k with
 |zero=>intro _;rfl
 |succ k ih=>
  intro c;rw[Ia,jQ,ih (by omega)];by_cases h:fH L k i
  ·rw[zi ((mt4 L k i (by omega) (by omega)).2 ⟨hi,h⟩),zi ⟨by omega,h⟩]
  rw[zh (fun b=>h ((mt4 L k i (by omega) (by omega)).1 b).2),zh (fun b=>h b.2)]
theorem PD (L:List UInt8)(a:Nat):∀n j,jQ L a n=some j->j<n:=by
 intro n;induction n with
 |zero=>intro j h;simp[jQ]at h
 |succ n ih=>
  intro j h;rw[jQ]at h;split at h
  ·injection h with h;omega
  have:=ih j h;omega
theorem II (L:List UInt8)(a n:Nat)(h:n+4<=L.length)(b:fH L n a):jQ L a (n+1)=some n:=by rw[jQ,zi ⟨h,b⟩]
theorem s0 (L:List UInt8)(a n:Nat)(h:¬(n+4<=L.length/\fH L n a)):jQ L a (n+1)=jQ L a n:=by rw[jQ,zh h]
theorem af.at_ {b:World}{k:Nat}{t:TypeId}{c:Array Value}(hz:b.heap.size=k):af (b.alloc (.cells c t)) k t c:=hz▸af.new b t c
def po (w:World)(B:Nat)(v:Value)(l:List bC):Prop:=∃A cap,v= .slice A l.length cap/\l.length<=cap/\cap<=9223372036854775807/\∀j (h:j<l.length),∃g o,A=some ⟨g,o,none⟩/\g<B/\w.cell? ⟨g,o+j*3,none⟩=some (.int .u64 l[j].id)/\w.cell? ⟨g,o+j*3+1,none⟩=some (.string l[j].name)/\w.cell? ⟨g,o+j*3+2,none⟩=some (.string l[j].ty)
theorem po.ag {w w':World}{B d:Nat}{v:Value}{l:List bC}(h:po w B v l)(x:B<=d)(b:∀p:Addr,p.block<B->w'.cell? p=w.cell? p):po w' d v l:=by
 obtain⟨A,cap,m,e,u,s⟩:=h;refine⟨A,cap,m,e,u,fun j q=> ?_⟩;obtain⟨g,o,r,c,i,n,k⟩:=s j q;exact⟨g,o,r,by omega,(b _ c).trans i,(b _ c).trans n,(b _ c).trans k⟩
theorem po.below {w w':World}{B:Nat}{v:Value}{l:List bC}(h:po w B v l)(b:Below B w w'):po w' B v l:=h.ag (zd _) (fun _ c=>b.cell c)
theorem po.mono {w:World}{B b:Nat}{v:Value}{l:List bC}(h:po w B v l)(c:B<=b):po w b v l:=h.ag c (fun _ _=>rfl)
theorem po.bT {w:World}{B:Nat}{v:Value}{l:List bC}(h:po w B v l):∃A n cap,v= .slice A n cap/\Hid (n=l.length)/\n<=cap/\cap<=9223372036854775807:=by
 obtain⟨A,cap,c,b,d,_⟩:=h;exact⟨A,_,cap,c,za rfl,b,d⟩
theorem po.at_ {w:World}{B:Nat}{A:Option Addr}{n cap:Nat}{l:List bC}(h:po w B (.slice A n cap) l){j:Nat}(c:j<l.length):∃g o,A=some ⟨g,o,none⟩/\g<B/\w.cell? ⟨g,o+j*3,none⟩=some (.int .u64 l[j].id)/\w.cell? ⟨g,o+j*3+1,none⟩=some (.string l[j].name)/\w.cell? ⟨g,o+j*3+2,none⟩=some (.string l[j].ty):=by
 obtain⟨e,k,b,i,m,d⟩:=h;injection b with hA _ _;subst hA;exact d j c
theorem po.nil (w:World)(B:Nat):po w B (.slice none 0 0) []:=⟨none,0,rfl,by simp,by simp,fun j b=>by simp at b⟩
