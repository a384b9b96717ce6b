/- Items as bytes: plain functions and their laws. -/
import Derived.Test.YtdbmifjankgfpaaGreatDoorKA4
set_option linter.all false
namespace Go.Proofs.YtdbmifjankgfpaaGreatDoor
variable {M z d:Int}{m n:Nat}
def zm:=@beq_eq_false_iff_ne
def zD:=@decide_eq_true
def zE:=@List.getElem_mem
def yf:=@of_decide_eq_true
def yR:=@List.getElem_cons_zero
def yU:=@Nat.add_zero
def Zg:=@Bool.and_true
def ZG:=@List.drop_left'
def ZJ:=@List.getD_cons_zero
def Yi:=@List.length_eq_one_iff
theorem KC (n:Nat):lK (cN n)=n:=by
 induction n using Nat.strongRecOn with
 |ind n ih=>
  by_cases h:n=0
  ·subst h;rw[dy];rfl
  rw[gM h,uI,ih (n/256) (by omega),bn _ (by omega)];omega
theorem KD (n:Nat)(h:n≠0):cN n≠ []:=by rw[gM h];simp
theorem BQ (n:Nat)(h:n≠0):(cN n).getD 0 0≠0:=by
 induction n using Nat.strongRecOn with
 |ind n ih=>
  rw[gM h];by_cases c:n/256=0
  ·rw[c,dy,yx];intro e;have d:=bn (n%256) (by omega);simp only[ZJ]at e;rw[e]at d;simp at d;omega
  have:=ih (n/256) (by omega) c;cases hl:cN (n/256)with
  |nil=>exact absurd hl (KD _ c)
  |cons a b=>rw[hl]at this;simpa using this
theorem Fa (l:List UInt8)(h:l.getD 0 0≠0):cN (lK l)=l:=by
 obtain⟨k,i⟩:∃k,l.length=k:=⟨_,rfl⟩
 induction k generalizing l with
 |zero=>obtain rfl:=zo i;simp at h
 |succ k ih=>
  have d:l≠ []:=by intro e;subst e;simp at i
  have e:=List.dropLast_concat_getLast d;have q:=(l.getLast d).toNat_lt;by_cases n:k=0
  ·subst n;match l,i with
   | [b],_=>
    have o:b.toNat≠0:=fun e=>h (by simp;exact zQ.1 e)
    have r:=b.toNat_lt;have m:lK [b]=b.toNat:=by simp[lK,du]
    rw[m,gM o,show b.toNat/256=0 from by omega,dy,yx];congr 1
    apply zQ.1;rw[bn _ (by omega)];omega
  have c:l.dropLast.getD 0 0≠0:=by
   have:l.dropLast.getD 0 0=l.getD 0 0:=by
    rw[zw,zw,List.getElem?_dropLast,zi (by omega)]
   rw[this];exact h
  have j:=ih l.dropLast c (by rw[List.length_dropLast];omega);rw[<-e,uI,gM,show(256*lK l.dropLast+(l.getLast d).toNat)/256=lK l.dropLast from by omega,j]
  ·congr 2
   apply zQ.1;rw[bn _ (by omega)];omega
  intro p;have:lK l.dropLast=0:=by omega
  rw[this,dy]at j;rw[<-j]at c;simp at c
def cJ (b n:Nat):List UInt8:=if n<=55 then [ub ((b+n:Nat):Int)]else ub ((b+55+(cN n).length:Nat):Int)::cN n
mutual
def It.fO :It->List UInt8
 | .mk t l s=>if l=true then cJ 192 (fy s).length++fy s else if t.size=1/\(t.data.toList.getD 0 0).toNat<128 then t.data.toList else cJ 128 t.size++t.data.toList
def fy :List It->List UInt8
 | []=> []
 |x::xs=>x.fO++fy xs
end
def la (b:List UInt8):List UInt8:=cJ 192 b.length++b
def eA (xs:List It)(b:List UInt8)(rest:List (List It×List UInt8)):List UInt8:=rest.foldl (fun inner f=>f.2++(la inner++fy f.1)) (b++fy xs)
theorem o9 (b c:List UInt8)(d:List It)(rest:List (List It×List UInt8)):eA [] b ((d,c)::rest)=eA d (c++la b) rest:=by simp[eA,fy]
theorem mY (x:It)(xs:List It)(b:List UInt8)(rest:List (List It×List UInt8)):eA (x::xs) b rest=eA xs (b++x.fO) rest:=by simp[eA,fy]
theorem Fb (t:ByteArray)(s:List It)(xs:List It)(b:List UInt8)(rest:List (List It×List UInt8)):eA (.mk t true s::xs) b rest=eA s [] ((xs,b)::rest):=by simp[eA,fy,It.fO,la]
def AI (s:ByteArray):Bool×Nat×Nat×Int:=
 let b:=(s.data.toList.getD 0 0).toNat
 if b<128 then(false,0,1,0)
 else
  let l:=decide (192<=b)
  let told:=if 192<=b then b-192 else b-128
  let size:=if told<=55 then 1 else 1+(told-55)
  let n:=if told<=55 then told else lK (s.extract 1 size).data.toList
  if told<=55 then
   if s.size<size+n then(false,0,0,2)
   else if l=false/\n=1/\(s.data.toList.getD 1 0).toNat<128 then(false,0,0,3)
   else(l,1,told,0)
  else
   if s.size<size then(false,0,0,2)
   else if(s.data.toList.getD 1 0).toNat=0\/n<=55 then(false,0,0,3)
   else if s.size<size+n then(false,0,0,2)
   else(l,size,n,0)
def hd (s:ByteArray)(deep many:Bool):Bool×Nat×Nat×Int:=
 if s.size=0 then(false,0,0,2)else if deep=true then(false,0,0,6)else if many=true then(false,0,0,4)else AI s
theorem WT (s:ByteArray)(k:0<s.size)(h:(AI s).2.2.2=0):(AI s).2.1+(AI s).2.2.1<=s.size/\1<=(AI s).2.1+(AI s).2.2.1/\((AI s).1=true->1<=(AI s).2.1):=by
 unfold AI at h⊢;dsimp only at h⊢;generalize (s.data.toList.getD 0 0).toNat=b at*;by_cases e:b<128
 ·rw[zi e]at h⊢;dsimp only;refine⟨by omega,by omega,by simp⟩
 rw[zh e]at h⊢;generalize (if 192<=b then b-192 else b-128)=told at*;by_cases i:told<=55
 ·simp only[zi i]at h⊢;by_cases c:s.size<1+told
  ·rw[zi c]at h;simp at h
  rw[zh c]at h⊢;split at h
  ·simp at h
  rename_i d;rw[zh d];dsimp only;refine⟨by omega,by omega,fun _=>by omega⟩
 simp only[zh i]at h⊢;generalize lK (s.extract 1 (1+(told-55))).data.toList=n at*;by_cases c:s.size<1+(told-55)
 ·rw[zi c]at h;simp at h
 rw[zh c]at h⊢;split at h
 ·simp at h
 rename_i d
 rw[zh d];split at h
 ·simp at h
 rename_i j
 rw[zh j];dsimp only;refine⟨by omega,by omega,fun _=>by omega⟩
theorem sP (s:ByteArray)(d m:Bool)(h:(hd s d m).2.2.2=0):0<s.size/\(hd s d m).2.1+(hd s d m).2.2.1<=s.size/\1<=(hd s d m).2.1+(hd s d m).2.2.1/\((hd s d m).1=true->1<=(hd s d m).2.1):=by
 unfold hd at h⊢;by_cases c:s.size=0
 ·rw[zi c]at h;simp at h
 rw[zh c]at h⊢;by_cases e:d=true
 ·rw[zi e]at h;simp at h
 rw[zh e]at h⊢;by_cases b:m=true
 ·rw[zi b]at h;simp at h
 rw[zh b]at h⊢;exact⟨by omega,WT s (by omega) h⟩
structure Rd where
 x:It
 size:Nat
 items:Nat
 e:Int
structure KE where
 xs:List It
 items:Nat
 e:Int
def jk :It:= .mk ByteArray.empty false []
def Rd.bad (e:Int):Rd:=⟨jk,0,0,e⟩
def KE.bad (e:Int):KE:=⟨[],0,e⟩
def aH (D:Int)(deep:Nat):Bool:=decide (D<deep)||decide (16<deep)
def aI (M:Int)(ahead:Nat):Bool:=decide (M<ahead+1)||decide (1024<ahead+1)
def within (e:Int):Int:=if e=2 then 3 else e
mutual
def qt (D M:Int):Nat->ByteArray->Nat->Nat->Rd
 |0,_,_,_=>Rd.bad 2
 |f+1,s,deep,ahead=>
  if(hd s (aH D deep) (aI M ahead)).2.2.2≠0 then Rd.bad (hd s (aH D deep) (aI M ahead)).2.2.2
  else if(hd s (aH D deep) (aI M ahead)).1=false then
   ⟨.mk (s.extract (hd s (aH D deep) (aI M ahead)).2.1 ((hd s (aH D deep) (aI M ahead)).2.1+(hd s (aH D deep) (aI M ahead)).2.2.1)) false [],
    (hd s (aH D deep) (aI M ahead)).2.1+(hd s (aH D deep) (aI M ahead)).2.2.1,1,0⟩
  else
   if(Fc D M f (s.extract (hd s (aH D deep) (aI M ahead)).2.1 ((hd s (aH D deep) (aI M ahead)).2.1+(hd s (aH D deep) (aI M ahead)).2.2.1)) (deep+1) (ahead+1)).e≠0
   then Rd.bad (Fc D M f (s.extract (hd s (aH D deep) (aI M ahead)).2.1 ((hd s (aH D deep) (aI M ahead)).2.1+(hd s (aH D deep) (aI M ahead)).2.2.1)) (deep+1) (ahead+1)).e
   else⟨.mk ByteArray.empty true (Fc D M f (s.extract (hd s (aH D deep) (aI M ahead)).2.1 ((hd s (aH D deep) (aI M ahead)).2.1+(hd s (aH D deep) (aI M ahead)).2.2.1)) (deep+1) (ahead+1)).xs,
    (hd s (aH D deep) (aI M ahead)).2.1+(hd s (aH D deep) (aI M ahead)).2.2.1,
    1+(Fc D M f (s.extract (hd s (aH D deep) (aI M ahead)).2.1 ((hd s (aH D deep) (aI M ahead)).2.1+(hd s (aH D deep) (aI M ahead)).2.2.1)) (deep+1) (ahead+1)).items,0⟩
def Fc (D M:Int):Nat->ByteArray->Nat->Nat->KE
 |0,_,_,_=>KE.bad 2
 |f+1,s,deep,ahead=>
  if s.size=0 then⟨[],0,0⟩
  else if(qt D M f s deep ahead).e≠0 then KE.bad (within (qt D M f s deep ahead).e)
  else if(Fc D M f (s.extract (qt D M f s deep ahead).size s.size) deep (ahead+(qt D M f s deep ahead).items)).e≠0
   then KE.bad (Fc D M f (s.extract (qt D M f s deep ahead).size s.size) deep (ahead+(qt D M f s deep ahead).items)).e
  else⟨(qt D M f s deep ahead).x::(Fc D M f (s.extract (qt D M f s deep ahead).size s.size) deep (ahead+(qt D M f s deep ahead).items)).xs,
   (qt D M f s deep ahead).items+(Fc D M f (s.extract (qt D M f s deep ahead).size s.size) deep (ahead+(qt D M f s deep ahead).items)).items,0⟩
end
theorem mZ (D M:Int)(f:Nat)(s:ByteArray)(deep ahead:Nat)(h:(qt D M f s deep ahead).e=0):1<=(qt D M f s deep ahead).size/\(qt D M f s deep ahead).size<=s.size:=by
 cases f with
 |zero=>simp[qt,Rd.bad]at h
 |succ f=>
  rw[qt]at h⊢;have e:=sP s (aH D deep) (aI M ahead);generalize hd s (aH D deep) (aI M ahead)=H at*;by_cases b:H.2.2.2≠0
  ·rw[zi b]at h;exact absurd h b
  rw[zh b]at h⊢;have e:=e (zH.1 b);by_cases d:H.1=false
  ·rw[zi d];dsimp only;omega
  rw[zh d]at h⊢;split at h
  ·rename_i c;exact absurd h c
  rename_i c;rw[zh c];dsimp only;omega
theorem CQ (D M:Int):∀(z:Nat),(∀(s:ByteArray) (deep ahead f g:Nat),s.size<=z->2*s.size<=f->2*s.size<=g->qt D M f s deep ahead=qt D M g s deep ahead)/\
 (∀(s:ByteArray) (deep ahead f g:Nat),s.size<=z->2*s.size+1<=f->2*s.size+1<=g->Fc D M f s deep ahead=Fc D M g s deep ahead):=by
 intro z;induction z with
 |zero=>
  refine⟨fun s deep ahead f g hz _ _=> ?_,fun s deep ahead f g hz i h=> ?_⟩
  ·have e:s.size=0:=by omega
   have o:∀d m,hd s d m=(false,0,0,2):=fun d m=>by simp[hd,e]
   have:∀f,qt D M f s deep ahead=Rd.bad 2:=by
    intro f;cases f with
    |zero=>rfl
    |succ f=>rw[qt];simp[o]
   rw[this f,this g]
  obtain⟨f,rfl⟩:∃k,f=k+1:=⟨f-1,by omega⟩
  obtain⟨g,rfl⟩:∃k,g=k+1:=⟨g-1,by omega⟩
  rw[Fc,Fc,zi (by omega),zi (by omega)]
 |succ z ih=>
  obtain⟨q,j⟩:=ih;have n:∀(s:ByteArray) (deep ahead f g:Nat),s.size<=z+1->2*s.size<=f->2*s.size<=g->qt D M f s deep ahead=qt D M g s deep ahead:=by
   intro s deep ahead f g hz i h;by_cases e:s.size=0
   ·exact q s deep ahead f g (by omega) i h
   obtain⟨f,rfl⟩:∃k,f=k+1:=⟨f-1,by omega⟩
   obtain⟨g,rfl⟩:∃k,g=k+1:=⟨g-1,by omega⟩
   rw[qt,qt];have c:=sP s (aH D deep) (aI M ahead);generalize hd s (aH D deep) (aI M ahead)=H at*;by_cases b:H.2.2.2≠0
   ·rw[zi b,zi b]
   have c:=c (zH.1 b);by_cases l:H.1=false
   ·rw[zh b,zh b,zi l,zi l]
   have r:=c.2.2.2 (by simpa using l);have p:(s.extract H.2.1 (H.2.1+H.2.2.1)).size=H.2.2.1:=by rw[aq _ _ _ c.2.1];omega
   rw[j (s.extract H.2.1 (H.2.1+H.2.2.1)) (deep+1) (ahead+1) f g (by omega) (by omega) (by omega)]
  refine⟨n,fun s deep ahead f g hz i h=> ?_⟩;by_cases e:s.size=0
  ·exact j s deep ahead f g (by omega) i h
  obtain⟨f,rfl⟩:∃k,f=k+1:=⟨f-1,by omega⟩
  obtain⟨g,rfl⟩:∃k,g=k+1:=⟨g-1,by omega⟩
  rw[Fc,Fc,zh e,zh e,n s deep ahead f g hz (by omega) (by omega)];have c:=mZ D M g s deep ahead;generalize qt D M g s deep ahead=R at*;by_cases b:R.e≠0
  ·rw[zi b,zi b]
  have c:=c (zH.1 b);have p:(s.extract R.size s.size).size=s.size-R.size:=aq _ _ _ (zg _);rw[j (s.extract R.size s.size) deep (ahead+R.items) f g (by omega) (by omega) (by omega)]
def bq (D M:Int)(s:ByteArray)(deep ahead:Nat):Rd:=qt D M (2*s.size+2) s deep ahead
def cV (D M:Int)(s:ByteArray)(deep ahead:Nat):KE:=Fc D M (2*s.size+1) s deep ahead
theorem dY (D M:Int)(s:ByteArray)(deep ahead:Nat)(H:Bool×Nat×Nat×Int)(e:hd s (aH D deep) (aI M ahead)=H):bq D M s deep ahead=
 if H.2.2.2≠0 then Rd.bad H.2.2.2
 else if H.1=false then⟨.mk (s.extract H.2.1 (H.2.1+H.2.2.1)) false [],H.2.1+H.2.2.1,1,0⟩
 else if(cV D M (s.extract H.2.1 (H.2.1+H.2.2.1)) (deep+1) (ahead+1)).e≠0 then Rd.bad (cV D M (s.extract H.2.1 (H.2.1+H.2.2.1)) (deep+1) (ahead+1)).e
 else⟨.mk ByteArray.empty true (cV D M (s.extract H.2.1 (H.2.1+H.2.2.1)) (deep+1) (ahead+1)).xs,H.2.1+H.2.2.1,1+(cV D M (s.extract H.2.1 (H.2.1+H.2.2.1)) (deep+1) (ahead+1)).items,0⟩:=by
 subst e;rw[bq,qt];have c:=sP s (aH D deep) (aI M ahead);generalize hd s (aH D deep) (aI M ahead)=H at*;by_cases b:H.2.2.2≠0
 ·rw[zi b,zi b]
 have c:=c (zH.1 b);by_cases d:H.1=false
 ·rw[zh b,zh b,zi d,zi d]
 have h:(s.extract H.2.1 (H.2.1+H.2.2.1)).size=H.2.2.1:=by rw[aq _ _ _ c.2.1];omega
 rw[cV,(CQ D M s.size).2 (s.extract H.2.1 (H.2.1+H.2.2.1)) (deep+1) (ahead+1) (2*s.size+1) (2*(s.extract H.2.1 (H.2.1+H.2.2.1)).size+1) (by omega) (by omega) (by omega)]
theorem jx (D M:Int)(s:ByteArray)(deep ahead:Nat)(h:s.size=0):cV D M s deep ahead=⟨[],0,0⟩:=by rw[cV,Fc,zi h]
theorem ik (D M:Int)(s:ByteArray)(deep ahead:Nat)(h:s.size≠0)(R:Rd)(d:bq D M s deep ahead=R):cV D M s deep ahead=
 if R.e≠0 then KE.bad (within R.e)
 else if(cV D M (s.extract R.size s.size) deep (ahead+R.items)).e≠0 then KE.bad (cV D M (s.extract R.size s.size) deep (ahead+R.items)).e
 else⟨R.x::(cV D M (s.extract R.size s.size) deep (ahead+R.items)).xs,R.items+(cV D M (s.extract R.size s.size) deep (ahead+R.items)).items,0⟩:=by
 subst d;rw[cV,Fc,zh h,bq,(CQ D M s.size).1 s deep ahead (2*s.size) (2*s.size+2) (by omega) (by omega) (by omega)];have c:=mZ D M (2*s.size+2) s deep ahead;generalize qt D M (2*s.size+2) s deep ahead=R at*;by_cases b:R.e≠0
 ·rw[zi b,zi b]
 have c:=c (zH.1 b);have e:(s.extract R.size s.size).size=s.size-R.size:=aq _ _ _ (zg _);rw[cV,(CQ D M s.size).2 (s.extract R.size s.size) deep (ahead+R.items) (2*s.size) (2*(s.extract R.size s.size).size+1) (by omega) (by omega) (by omega)]
mutual
def It.lay :It->Ty->List UInt8
 | .mk tx _ s,t=>if t.kind=1 then jw (lK tx.data.toList) t.size.toNat else if t.kind=2 then tx.data.toList else if t.kind=3 then dF tx.size++tx.data.toList
  else if t.kind=4 then dF s.length++cB s t 0 else cB s t 0
def cB :List It->Ty->Nat->List UInt8
 | [],_,_=> []
 |x::xs,t,i=>x.lay (t.at i)++cB xs t (i+1)
end
theorem sQ (a b:List It)(t:Ty)(i:Nat):cB (a++b) t i=cB a t i++cB b t (i+a.length):=by
 induction a generalizing i with
 |nil=>simp[cB]
 |cons x xs ih=>simp only[zP,cB,ih,zy,zB];rw[show i+1+xs.length=i+(xs.length+1)from by omega]
theorem BR {s:List It}{k:Nat}{t:Ty}(h:k<s.length):cB (s.take (k+1)) t 0=cB (s.take k) t 0++s[k].lay (t.at k):=by
 rw[dD s k h,sQ];simp[cB,yD (Yh h)]
mutual
def Ty.full :Ty->Bool
 | .mk _ _ l t=>decide (t=0)&&cl l
def cl :List Ty->Bool
 | []=>true
 |x::xs=>x.full&&cl xs
end
def Ty.flat (t:Ty):Bool:=t.may&&cl t.sub
structure SV where
 e:Int
 x:It
 n:Nat
 q:List UInt8
structure lf where
 e:Int
 xs:List It
 n:Nat
 q:List UInt8
def SV.bad (e:Int)(n:Nat)(q:List UInt8):SV:=⟨e,jk,n,q⟩
def lf.cons (x:It)(r:lf):lf:=⟨r.e,x::r.xs,r.n,r.q⟩
def lf.list (r:lf):SV:=⟨r.e,.mk ⟨#[]⟩ true r.xs,r.n,r.q⟩
def tF (f:Nat->List UInt8->SV):Nat->Nat->List UInt8->lf
 |0,n,r=>⟨0,[],n,r⟩
 |c+1,n,r=>if(f n r).e≠0 then⟨(f n r).e,[(f n r).x],(f n r).n,(f n r).q⟩else(tF f c (f n r).n (f n r).q).cons (f n r).x
mutual
def Ty.rd (M:Int):Ty->Nat->List UInt8->SV
 | .mk k z l ta,n,r=>
  if M<=n then .bad 4 n r
  else if k=1 then(if r.length<z.toNat then .bad 2 (n+1) r else⟨0,.mk ⟨(cN (du (r.take z.toNat))).toArray⟩ false [],n+1,r.drop z.toNat⟩)
  else if k=2 then(if r.length<z.toNat then .bad 2 (n+1) r else⟨0,.mk ⟨(r.take z.toNat).toArray⟩ false [],n+1,r.drop z.toNat⟩)
  else if k=3 then
   (if(aw r).2.2≠0 then .bad (aw r).2.2 (n+1) r else if z<(aw r).1 then .bad 5 (n+1) r
   else if(r.drop (aw r).2.1).length<(aw r).1 then .bad 2 (n+1) (r.drop (aw r).2.1)
   else⟨0,.mk ⟨((r.drop (aw r).2.1).take (aw r).1).toArray⟩ false [],n+1,(r.drop (aw r).2.1).drop (aw r).1⟩)
  else if k=4 then
   (if(aw r).2.2≠0 then .bad (aw r).2.2 (n+1) r else if z<(aw r).1 then .bad 5 (n+1) r
   else(rdF M l (aw r).1 (n+1) (r.drop (aw r).2.1)).list)
  else(nV M l ((l.length:Int)-ta).toNat (n+1) r).list
def rdF (M:Int):List Ty->Nat->Nat->List UInt8->lf
 | [],_,n,r=>⟨0,[],n,r⟩
 |x::_,c,n,r=>tF (fun n r=>x.rd M n r) c n r
def nV (M:Int):List Ty->Nat->Nat->List UInt8->lf
 | [],_,n,r=>⟨0,[],n,r⟩
 |x::xs,m,n,r=>if m=0/\r= []then⟨0,[],n,r⟩
  else if(x.rd M n r).e≠0 then⟨(x.rd M n r).e,[(x.rd M n r).x],(x.rd M n r).n,(x.rd M n r).q⟩
  else(nV M xs (m-1) (x.rd M n r).n (x.rd M n r).q).cons (x.rd M n r).x
end
theorem WU (l:List UInt8)(h:fC l=false):cN (lK l)=l:=by
 cases l with
 |nil=>simp[lK,du,dy]
 |cons b t=>
  apply Fa;have:(b==0)=false:=h;intro e;have c:b=0:=by simpa using e
  rw[c]at this;simp at this
theorem vr {s:List It}(h:bH s=true):∀x∈s,x.right=true:=by
 induction s with
 |nil=>simp
 |cons y ys ih=>
  simp only[bH,zz]at h;intro x hx;rcases xf.1 hx with rfl|hx
  ·exact h.1
  exact ih h.2 x hx
theorem lQ {k:Int}{l:List Ty}{b:Int}(h:(Ty.mk k z l b).full=true):b=0/\cl l=true:=by
 simpa only[Ty.full,zz,zY]using h
def PF (t:Ty)(x:It)(q:List UInt8):Prop:=t.kind=5->(x.sub.length<t.sub.length->q= [])/\∀j (hj:j<x.sub.length) (mI:j<t.sub.length),((t.sub.length:Int)-t.tail).toNat<=j->(x.sub[j]).lay (t.sub[j])≠ []
theorem nf {t:Ty}{x:It}(h:t.full=true)(hi:x.cI t=true)(q:List UInt8):PF t x q:=by
 intro d;obtain⟨k,z,l,n⟩:=t;obtain⟨o,b,s⟩:=x;obtain⟨rfl,_⟩:=lQ h;simp only[Ty.Kr]at d;subst d;simp[It.cI,k8]at hi;obtain⟨⟨⟨_,m⟩,p⟩,_⟩:=hi;refine⟨fun c=> ?_,fun j e i c=> ?_⟩
 ·simp only[It.gI,Ty.gI]at c;omega
 simp only[It.gI,Ty.gI,Ty.CI]at e i c;omega
theorem KF {a t:Ty}{f:Nat->List UInt8->SV}:∀(s:List It) (i n:Nat) (q:List UInt8),(∀j,t.at (i+j)=a)->(∀x∈s,∀(n:Nat) (q:List UInt8),(n:Int)+x.count<=M->f n (x.lay a++q)=⟨0,x,n+x.count,q⟩)->(n:Int)+ay s<=M->
 tF f s.length n (cB s t i++q)=⟨0,s,n+ay s,q⟩
 | [],i,n,q,_,_,_=>by simp[tF,cB,ay]
 |x::xs,i,n,q,ha,hf,hM=>by
  simp only[ay]at hM;have b:=ha 0;rw[yU]at b;have hx:=hf x (by simp) n (cB xs t (i+1)++q) (by omega);rw[zy,cB,b,zB,tF,hx];simp only[ne_eq,yZ,xM];rw[KF xs (i+1) (n+x.count) q (fun j=>by have:=ha (j+1);rwa [show i+(j+1)=i+1+j from by omega]at this) (fun y c=>hf y (by simp[c])) (by omega)];simp[lf.cons,ay,yi]
theorem KG {t:Ty}:∀(b:List Ty) (s:List It) (m i n:Nat) (q:List UInt8),(∀j (h:j<b.length),t.at (i+j)=b[j])->m<=s.length->s.length<=b.length->(s.length<b.length->q= [])->
 (∀j (c:j<s.length) (d:j<b.length),m<=j->(s[j]).lay (b[j])≠ [])->
 (∀j (c:j<s.length) (d:j<b.length),∀(n:Nat) (q:List UInt8),(n:Int)+(s[j]).count<=M->(b[j]).rd M n ((s[j]).lay (b[j])++q)=⟨0,s[j],n+(s[j]).count,q⟩)->(n:Int)+ay s<=M->
 nV M b m n (cB s t i++q)=⟨0,s,n+ay s,q⟩
 | [],s,m,i,n,q,_,_,hs,_,_,_,_=>by
  obtain rfl:s= []:=zo (by simpa using hs);simp[nV,cB,ay]
 |a::b,[],m,i,n,q,_,hm,_,hq,_,_,_=>by
  have k:m=0:=by simpa using hm
  have o:=hq (by simp);subst k o;simp[nV,cB,ay]
 |a::b,x::xs,m,i,n,q,ha,hm,hs,hq,cF,hf,hM=>by
  simp only[ay]at hM;have e:=ha 0 (by simp);rw[yU]at e;have hx:=hf 0 (by simp) (by simp) n (cB xs t (i+1)++q) (by simp only[yR];omega);simp only[yR]at hx e;rw[cB,e,zB,nV,hx];rw[zh (by
   rintro⟨k,l⟩;have:=cF 0 (by simp) (by simp) (by omega);simp only[yR]at this;exact this (List.append_eq_nil_iff.1 l).1)]
  simp only[ne_eq,yZ,xM];rw[KG b xs (m-1) (i+1) (n+x.count) q (fun j c=>by have:=ha (j+1) (by simpa using c);simpa[show i+(j+1)=i+1+j from by omega]using this) (by simp at hm;omega) (by simpa using hs) (fun h=>hq (by simpa using h))
   (fun j c d h=>by have:=cF (j+1) (by simpa using c) (by simpa using d) (by omega);simpa using this) (fun j c d=>by have:=hf (j+1) (by simpa using c) (by simpa using d);simpa using this) (by omega)]
  simp[lf.cons,ay,yi]
theorem KH {l:List Ty}{c:ByteArray}{b:Bool}(h:k8 (.mk 1 z l d) c b m=true):b=false/\(c.size:Int)<=z/\fC c.data.toList=false:=by
 simp[k8]at h;exact⟨h.1.1,yf h.1.2,h.2⟩
theorem CR {l:List Ty}{c:ByteArray}{b:Bool}(h:k8 (.mk 2 z l d) c b m=true):b=false/\(c.size:Int)=z:=by
 simp[k8]at h;exact⟨h.1,yf h.2⟩
theorem rF {l:List Ty}{c:ByteArray}{b:Bool}(h:k8 (.mk 3 z l d) c b m=true):b=false/\(c.size:Int)<=z:=by
 simp[k8]at h;exact⟨h.1,yf h.2⟩
theorem Fe {l:List Ty}{c:Int}{d:ByteArray}{b:Bool}(h:k8 (.mk 4 z l c) d b m=true):b=true/\(m:Int)<=z:=by
 simp[k8]at h;exact⟨h.1,yf h.2⟩
theorem qu {l:List Ty}{c:Int}{d:ByteArray}{b:Bool}(h:k8 (.mk 5 z l c) d b m=true):b=true/\m<=l.length/\(l.length:Int)-c<=m:=by
 simp[k8]at h;exact⟨h.1.1,yf h.1.2,yf h.2⟩
theorem uh (c:ByteArray)(b:Bool)(s:List It)(z:Int)(l:List Ty)(d:Int):(It.mk c b s).lay (.mk 1 z l d)=jw (lK c.data.toList) z.toNat:=rfl
theorem ui (c:ByteArray)(b:Bool)(s:List It)(z:Int)(l:List Ty)(d:Int):(It.mk c b s).lay (.mk 2 z l d)=c.data.toList:=rfl
theorem nW (c:ByteArray)(b:Bool)(s:List It)(z:Int)(l:List Ty)(d:Int):(It.mk c b s).lay (.mk 3 z l d)=dF c.size++c.data.toList:=rfl
theorem qv (d:ByteArray)(b:Bool)(s:List It)(z:Int)(l:List Ty)(c:Int):(It.mk d b s).lay (.mk 4 z l c)=dF s.length++cB s (.mk 4 z l c) 0:=rfl
theorem ng (d:ByteArray)(b:Bool)(s:List It)(z:Int)(l:List Ty)(c:Int):(It.mk d b s).lay (.mk 5 z l c)=cB s (.mk 5 z l c) 0:=rfl
theorem KI (h:M<=n)(t:Ty)(r:List UInt8):t.rd M n r= .bad 4 n r:=by obtain⟨k,z,l,b⟩:=t;rw[Ty.rd,zi h]
theorem Ix (h:¬M<=n)(z:Int)(l:List Ty)(b:Int)(r:List UInt8):(Ty.mk 1 z l b).rd M n r=if r.length<z.toNat then .bad 2 (n+1) r else⟨0,.mk ⟨(cN (du (r.take z.toNat))).toArray⟩ false [],n+1,r.drop z.toNat⟩:=by rw[Ty.rd,zh h];rfl
theorem Iy (h:¬M<=n)(z:Int)(l:List Ty)(b:Int)(r:List UInt8):(Ty.mk 2 z l b).rd M n r=if r.length<z.toNat then .bad 2 (n+1) r else⟨0,.mk ⟨(r.take z.toNat).toArray⟩ false [],n+1,r.drop z.toNat⟩:=by rw[Ty.rd,zh h];rfl
theorem vt (h:¬M<=n)(z:Int)(l:List Ty)(b:Int)(r:List UInt8):(Ty.mk 3 z l b).rd M n r=if(aw r).2.2≠0 then .bad (aw r).2.2 (n+1) r else if z<(aw r).1 then .bad 5 (n+1) r
 else if(r.drop (aw r).2.1).length<(aw r).1 then .bad 2 (n+1) (r.drop (aw r).2.1)
 else⟨0,.mk ⟨((r.drop (aw r).2.1).take (aw r).1).toArray⟩ false [],n+1,(r.drop (aw r).2.1).drop (aw r).1⟩:=by rw[Ty.rd,zh h];rfl
theorem CS (h:¬M<=n)(z:Int)(l:List Ty)(b:Int)(r:List UInt8):(Ty.mk 4 z l b).rd M n r=if(aw r).2.2≠0 then .bad (aw r).2.2 (n+1) r else if z<(aw r).1 then .bad 5 (n+1) r
 else(rdF M l (aw r).1 (n+1) (r.drop (aw r).2.1)).list:=by rw[Ty.rd,zh h];rfl
theorem uj (h:¬M<=n)(z:Int)(l:List Ty)(b:Int)(r:List UInt8):(Ty.mk 5 z l b).rd M n r=(nV M l ((l.length:Int)-b).toNat (n+1) r).list:=by rw[Ty.rd,zh h];rfl
theorem lg :∀(s:List It) (t:Ty) (i:Nat),bN s t i=true->∀j (h:j<s.length),(s[j]).cI (t.at (i+j))=true
 | [],_,_,_,j,h=>by simp at h
 |x::xs,t,i,hi,0,h=>by simp only[bN,zz]at hi;simpa using hi.1
 |x::xs,t,i,hi,j+1,h=>by
  simp only[bN,zz]at hi;have:=lg xs t (i+1) hi.2 j (by simpa using h);rw[show i+(j+1)=i+1+j from by omega];simpa using this
theorem Ff {s:List Ty}(h:cl s=true):∀k (b:k<s.length),(s[k]).full=true:=by
 induction s with
 |nil=>intro k b;simp at b
 |cons x xs ih=>
  simp only[cl,zz]at h;intro k b;cases k with
  |zero=>exact h.1
  |succ k=>exact ih h.2 k (by simpa using b)
theorem PG (M:Int)(hM:M<=1024)(x:It):∀(t:Ty) (n:Nat) (q:List UInt8),t.right=true->cl t.sub=true->PF t x q->x.cI t=true->x.right=true->(n:Int)+x.count<=M->
 t.rd M n (x.lay t++q)=⟨0,x,n+x.count,q⟩:=by
 induction x using It.ind with
 |h tx b s ih=>
  intro t n q hr D tv hi hx B;obtain⟨k,z,l,d⟩:=t;obtain⟨bC,X⟩:=iI hr;obtain⟨m,ab⟩:=mV hx;have Z:=vr ab;have u:¬M<=(n:Int):=by simp only[It.count]at B;omega
  simp only[It.cI,zz]at hi;obtain⟨c,df⟩:=hi;have R:=lg s _ 0 df;simp only[zG]at R;simp only[Ty.gI]at D;rcases km bC with⟨rfl,hs,y,G⟩|⟨rfl,I,N,y,G⟩|⟨rfl,I,N,y,G⟩|⟨rfl,I,N,y,G⟩|⟨rfl,I,N,h5,h6⟩
  ·replace c:=KH c;obtain⟨rfl,hz,D7⟩:=c;have p:s= []:=by simpa[formed]using m
   subst p;have S:=uJ tx.data.toList;rw[aa]at S;have J:tx.size<=z.toNat:=by omega
   have DE:lK tx.data.toList<2^(8*z.toNat):=zU S (yp (by omega) (by omega));rw[uh,Ix u];rw[zh (by rw[zj,bg];omega),ZE (bg _ _),ZG (bg _ _),Ps _ _ DE,WU _ D7,iC];simp[It.count,ay]
  ·replace c:=CR c;obtain⟨rfl,hz⟩:=c;have p:s= []:=by simpa[formed]using m
   subst p;have J:tx.data.toList.length=z.toNat:=by rw[aa];omega
   rw[ui,Iy u];rw[zh (by rw[zj];omega),ZE J,ZG J,iC];simp[It.count,ay]
  ·replace c:=rF c;obtain⟨rfl,hz⟩:=c;have p:s= []:=by simpa[formed]using m
   subst p;have H:=vq tx.size (tx.data.toList++q) (by omega);have C:(dF tx.size++(tx.data.toList++q)).drop (dF tx.size).length=tx.data.toList++q:=ZG rfl;rw[nW,zB,vt u];rw[H];simp only[C];rw[zh (by simp),zh (by omega),zh (by rw[zj,aa];omega),ZE (aa tx),ZG (aa tx),iC];simp[It.count,ay]
  ·replace c:=Fe c;obtain⟨rfl,hz⟩:=c;have L:tx=⟨#[]⟩:=by
    have:tx.size=0:=by simpa[formed]using m
    exact aF (by simp[zo ((aa tx).trans this)])
   subst L;obtain⟨a,rfl⟩:=Yi.1 y;have o:∀j,(Ty.mk 4 z [a] d).at j=a:=fun j=>by unfold Ty.at;simp
   have F:a.right=true:=by simpa[bR]using X
   have w:a.full=true:=by simpa[cl]using D
   have H:=vq s.length (cB s (.mk 4 z [a] d) 0++q) (by omega);have C:(dF s.length++(cB s (.mk 4 z [a] d) 0++q)).drop (dF s.length).length=cB s (.mk 4 z [a] d) 0++q:=ZG rfl;simp only[It.count]at B;have E:=KF (M:=M) (a:=a) (t:= .mk 4 z [a] d) (f:=fun n r=>a.rd M n r) s 0 (n+1) q (fun j=>o _) (fun x i n q K=>by
    obtain⟨j,A,rfl⟩:=yS i;have e:=R j A;rw[o]at e;obtain⟨ak,az,al,at_⟩:=a;exact ih _ i _ n q F (lQ w).2 (nf w e q) e (Z _ i) K) (by omega)
   rw[qv,zB,CS u];rw[H];simp only[C,rdF];rw[zh (by simp),zh (by omega),E];simp[lf.list,It.count,yi]
  replace c:=qu c;obtain⟨rfl,cc,cE⟩:=c;have L:tx=⟨#[]⟩:=by
   have:tx.size=0:=by simpa[formed]using m
   exact aF (by simp[zo ((aa tx).trans this)])
  subst L;have o:∀j (h:j<l.length),(Ty.mk 5 z l d).at (0+j)=l[j]:=fun j h=>by unfold Ty.at;simp[h]
  obtain⟨W,Y⟩:=tv rfl;simp only[It.gI,Ty.gI,Ty.CI]at W Y;simp only[It.count]at B;have E:=KG (M:=M) (t:= .mk 5 z l d) l s ((l.length:Int)-d).toNat 0 (n+1) q o (by omega) cc W Y (fun j A O n q K=>by
   have i:=zE A;have e:=R j A;have U:=o j O;rw[zG]at U;rw[U]at e;have w:=Ff D j O;have F:=dk X j O;generalize l[j]=a at*;obtain⟨ak,az,al,at_⟩:=a;exact ih _ i _ n q F (lQ w).2 (nf w e q) e (Z _ i) K) (by omega)
  rw[ng,uj u];rw[E];simp[lf.list,It.count,yi]
structure TC (M:Int)(t:Ty)(n:Nat)(r:List UInt8)(R:SV):Prop where
 cI:R.x.cI t=true
 right:R.x.right=true
 num:R.n=n+R.x.count
 many:(R.n:Int)<=M
 lay:r=R.x.lay t++R.q
 deep:R.x.deep<=t.deep
structure Vr (M:Int)(t:Ty)(i n:Nat)(r:List UInt8)(R:lf):Prop where
 cI:bN R.xs t i=true
 right:bH R.xs=true
 num:R.n=n+ay R.xs
 many:(R.n:Int)<=M
 lay:r=cB R.xs t i++R.q
theorem Fg {a t:Ty}{f:Nat->List UInt8->SV}(l:∀n r,(f n r).e=0->TC M a n r (f n r)):∀(c i n:Nat) (r:List UInt8),(∀j,t.at (i+j)=a)->(n:Int)<=M->(tF f c n r).e=0->
 Vr M t i n r (tF f c n r)/\(tF f c n r).xs.length=c/\bA (tF f c n r).xs<=a.deep
 |0,i,n,r,_,hM,_=>⟨⟨rfl,rfl,by simp[tF,ay],hM,by simp[tF,cB]⟩,rfl,by simp[tF,bA]⟩
 |c+1,i,n,r,ha,hM,h=>by
  rw[tF]at h⊢;by_cases e:(f n r).e=0
  ·rw[zh (by simp[e])]at h⊢;have b:=l n r e;obtain⟨d,m,o⟩:=Fg l c (i+1) (f n r).n (f n r).q (fun j=>by have:=ha (j+1);rwa [show i+(j+1)=i+1+j from by omega]at this) b.many h;have k:=ha 0;rw[yU]at k;refine⟨⟨?_, ?_, ?_,d.many, ?_⟩,by simp[lf.cons,m], ?_⟩
   ·simp only[lf.cons,bN,k,b.cI,d.cI,Bool.and_self]
   ·simp only[lf.cons,bH,b.right,d.right,Bool.and_self]
   ·have q:=d.num;have p:=b.num;simp only[lf.cons,ay];omega
   ·simp only[lf.cons,cB,k,zB];rw[<-d.lay];exact b.lay
   simp only[lf.cons,bA];have:=b.deep;omega
  rw[zi (by simpa using e)]at h;exact absurd h e
theorem Fh {t:Ty}:∀(c:List Ty) (m i n:Nat) (r:List UInt8),(∀j (h:j<c.length),t.at (i+j)=c[j])->(∀a∈c,∀n r,(a.rd M n r).e=0->TC M a n r (a.rd M n r))->(n:Int)<=M->m<=c.length->(nV M c m n r).e=0->
 Vr M t i n r (nV M c m n r)/\m<=(nV M c m n r).xs.length/\(nV M c m n r).xs.length<=c.length/\bA (nV M c m n r).xs<=dR c
 | [],m,i,n,r,_,_,hM,hm,_=>⟨⟨rfl,rfl,by simp[nV,ay],hM,by simp[nV,cB]⟩,by simpa[nV]using hm,by simp[nV],by simp[nV,bA]⟩
 |a::c,m,i,n,r,ha,hf,hM,hm,h=>by
  rw[nV]at h⊢;by_cases hz:m=0/\r= []
  ·rw[zi hz];obtain⟨rfl,rfl⟩:=hz;exact⟨⟨rfl,rfl,by simp[ay],hM,by simp[cB]⟩,by simp,by simp,by simp[bA]⟩
  rw[zh hz]at h⊢;by_cases k:(a.rd M n r).e=0
  ·rw[zh (by simp[k])]at h⊢;have d:=hf a (by simp) n r k;obtain⟨e,x,q,s⟩:=Fh c (m-1) (i+1) (a.rd M n r).n (a.rd M n r).q (fun j o=>by have:=ha (j+1) (by simpa using o);simpa[show i+(j+1)=i+1+j from by omega]using this) (fun b p=>hf b (by simp[p])) d.many (by simp at hm;omega) h;have l:=ha 0 (by simp);simp only[yU,yR]at l;refine⟨⟨?_, ?_, ?_,e.many, ?_⟩,by simp only[lf.cons,zy];omega,by simp only[lf.cons,zy];omega, ?_⟩
   ·simp only[lf.cons,bN,l,d.cI,e.cI,Bool.and_self]
   ·simp only[lf.cons,bH,d.right,e.right,Bool.and_self]
   ·have w:=e.num;have u:=d.num;simp only[lf.cons,ay];omega
   ·simp only[lf.cons,cB,l,zB];rw[<-e.lay];exact d.lay
   simp only[lf.cons,bA,dR];have:=d.deep;omega
  rw[zi (by simpa using k)]at h;exact absurd h k
theorem TD {l:List Ty}{c:Int}{b:ByteArray}(d:(b.size:Int)<=z)(e:fC b.data.toList=false):k8 (.mk 1 z l c) b false m=true:=by
 show(!false&&decide ((b.size:Int)<=z)&& !fC b.data.toList)=true
 rw[e,zD d];rfl
theorem TE {l:List Ty}{c:Int}{b:ByteArray}(d:(b.size:Int)=z):k8 (.mk 2 z l c) b false m=true:=by
 show(!false&&decide ((b.size:Int)=z))=true
 rw[zD d];rfl
theorem ML {l:List Ty}{c:Int}{b:ByteArray}(d:(b.size:Int)<=z):k8 (.mk 3 z l c) b false m=true:=by
 show(!false&&decide ((b.size:Int)<=z))=true
 rw[zD d];rfl
theorem PH {l:List Ty}{c:Int}{b:ByteArray}(d:(m:Int)<=z):k8 (.mk 4 z l c) b true m=true:=by
 show(true&&decide ((m:Int)<=z))=true
 rw[zD d];rfl
theorem PI {l:List Ty}{b:Int}{e:ByteArray}(c:m<=l.length)(d:(l.length:Int)-b<=m):k8 (.mk 5 z l b) e true m=true:=by
 show(true&&decide (m<=l.length)&&decide ((l.length:Int)-b<=m))=true
 rw[zD c,zD d];rfl
theorem Iz (n:Nat):fC (cN n)=false:=by
 by_cases h:n=0
 ·subst h;rw[dy];rfl
 cases hl:cN n with
 |nil=>rfl
 |cons b t=>
  have h1:=BQ n h;rw[hl]at h1;show(b==0)=false
  exact zm.2 (by simpa using h1)
theorem MM (M:Int)(K:M<=1024)(t:Ty):∀(n:Nat) (r:List UInt8),t.right=true->(t.rd M n r).e=0->TC M t n r (t.rd M n r):=by
 induction t using Ty.ind with
 |h k z l ta ih=>
  intro n r G h;obtain⟨A,y⟩:=iI G;by_cases d:M<=(n:Int)
  ·rw[KI d]at h;cases h
  rcases km A with⟨rfl,N,m,p⟩|⟨rfl,q,s,m,p⟩|⟨rfl,q,s,m,p⟩|⟨rfl,q,s,m,p⟩|⟨rfl,q,s,I,L⟩
  ·rw[Ix d]at h⊢;by_cases c:r.length<z.toNat
   ·rw[zi c]at h;cases h
   rw[zh c];have x:=jC (r.take z.toNat);have i:(r.take z.toNat).length=z.toNat:=by rw[zV];omega
   rw[i]at x;have J:=gw z.toNat _ x;refine⟨?_,rfl,by simp[It.count,ay],by simp only;omega, ?_, ?_⟩
   ·simp only[It.cI,bN,Zg];exact TD (by rw[bI];omega) (by simpa using Iz _)
   ·rw[uh];simp only;have e:=Pt (r.take z.toNat);rw[i]at e;rw[KC,e,zC]
   simp[It.deep,bA,Ty.deep]
  ·rw[Iy d]at h⊢;by_cases c:r.length<z.toNat
   ·rw[zi c]at h;cases h
   rw[zh c];have i:(r.take z.toNat).length=z.toNat:=by rw[zV];omega
   refine⟨?_,rfl,by simp[It.count,ay],by simp only;omega, ?_, ?_⟩
   ·simp only[It.cI,bN,Zg];exact TE (by rw[bI];omega)
   ·rw[ui];simp only;rw[zC]
   simp[It.deep,bA,Ty.deep]
  ·rw[vt d]at h⊢;by_cases b:(aw r).2.2≠0
   ·rw[zi b]at h;exact absurd h b
   rw[zh b]at h⊢;by_cases hz:z<((aw r).1:Int)
   ·rw[zi hz]at h;cases h
   rw[zh hz]at h⊢;by_cases c:(r.drop (aw r).2.1).length<(aw r).1
   ·rw[zi c]at h;cases h
   rw[zh c];obtain⟨F,D,u,H⟩:=iL r (aw r).1 (aw r).2.1 (by rw[<-zH.1 b]);generalize aw r=C at*;have i:((r.drop C.2.1).take C.1).length=C.1:=by rw[zV];omega
   refine⟨?_,rfl,by simp[It.count,ay],by simp only;omega, ?_, ?_⟩
   ·simp only[It.cI,bN,Zg];exact ML (by rw[bI];omega)
   ·rw[nW];simp only;rw[show(⟨((r.drop C.2.1).take C.1).toArray⟩:ByteArray).size=C.1 from by rw[bI,i],<-u,zB,zC,zC]
   simp[It.deep,bA,Ty.deep]
  ·rw[CS d]at h⊢;by_cases b:(aw r).2.2≠0
   ·rw[zi b]at h;exact absurd h b
   rw[zh b]at h⊢;by_cases hz:z<((aw r).1:Int)
   ·rw[zi hz]at h;cases h
   rw[zh hz]at h⊢;obtain⟨F,D,u,H⟩:=iL r (aw r).1 (aw r).2.1 (by rw[<-zH.1 b]);generalize aw r=C at*;obtain⟨a,rfl⟩:=Yi.1 m;have o:∀j,(Ty.mk 4 z [a] ta).at j=a:=fun j=>by unfold Ty.at;simp
   have E:a.right=true:=by simpa[bR]using y
   simp only[rdF,lf.list]at h⊢;obtain⟨g1,g2,g3⟩:=Fg (M:=M) (a:=a) (t:= .mk 4 z [a] ta) (fun n r h=>ih a (by simp) n r E h) C.1 0 (n+1) (r.drop C.2.1) (fun j=>o _) (by omega) h;generalize tF (fun n r=>a.rd M n r) C.1 (n+1) (r.drop C.2.1)=R at*;refine⟨?_, ?_, ?_,g1.many, ?_, ?_⟩
   ·simp only[It.cI,g1.cI,Zg];exact PH (by rw[g2];omega)
   ·simp[It.right,g1.right,formed,ByteArray.size]
   ·simp only[It.count,g1.num];omega
   ·rw[qv,zB,<-g1.lay,g2,<-u,zC]
   simp only[It.deep,Ty.deep,dR];omega
  rw[uj d]at h⊢;have o:∀j (h:j<l.length),(Ty.mk 5 z l ta).at (0+j)=l[j]:=fun j h=>by unfold Ty.at;simp[h]
  simp only[lf.list]at h⊢;obtain⟨g1,g2,g3,g4⟩:=Fh (M:=M) (t:= .mk 5 z l ta) l ((l.length:Int)-ta).toNat 0 (n+1) r o (fun a w n r h=>by
   obtain⟨j,B,rfl⟩:=yS w;exact ih _ w n r (dk y j B) h) (by omega) (by omega) h
  generalize nV M l ((l.length:Int)-ta).toNat (n+1) r=R at*;refine⟨?_, ?_, ?_,g1.many, ?_, ?_⟩
  ·simp only[It.cI,g1.cI,Zg];exact PI g3 (by omega)
  ·simp[It.right,g1.right,formed,ByteArray.size]
  ·simp only[It.count,g1.num];omega
  ·rw[ng];exact g1.lay
  simp only[It.deep,Ty.deep];omega
def fI (t:Ty)(x:It)(M:Int):Int:=if t.flat=false then 1 else if cU t x≠0 then cU t x else if M<x.count then 4 else 0
def lh (t:Ty)(x:It)(M:Int):ByteArray×Int:=if fI t x M=0 then(⟨(x.lay t).toArray⟩,0)else(⟨#[]⟩,fI t x M)
def oo (t:Ty)(s:ByteArray)(M:Int):SV:=t.rd (min M 1024) 0 s.data.toList
def dv (t:Ty)(s:ByteArray)(M:Int):Int×It×Nat:=if t.flat=false then(1,jk,0)else if(oo t s M).e≠0 then((oo t s M).e,jk,0)else(0,(oo t s M).x,s.size-(oo t s M).q.length)
def jH (t:Ty)(s:ByteArray)(M:Int):Int×It:=if(dv t s M).1≠0 then((dv t s M).1,jk)else if(dv t s M).2.2<s.size then(3,jk)else(0,(dv t s M).2.1)
mutual
def Ty.low :Ty->Int
 | .mk k z l _=>if k=1\/k=2 then z else if k=3\/k=4 then 1 else ab9 l
def ab9 :List Ty->Int
 | []=>0
 |x::xs=>x.low+ab9 xs
end
theorem jI {t:Ty}(h:t.flat=true):t.may=true/\t.right=true/\t.count<=64/\t.deep<=8/\cl t.sub=true:=by
 simp only[Ty.flat,zz]at h;obtain⟨c,b,d⟩:=Ig h.1;exact⟨h.1,d,c,b,h.2⟩
theorem rG {t:Ty}{x:It}(h:cU t x=0):t.may=true/\x.may=true/\x.cI t=true:=by
 unfold cU at h;cases h1:t.may<;>cases h2:x.may<;>cases h3:x.cI t<;>simp_all
theorem WV {t:Ty}{x:It}(c:t.may=true)(b:x.may=true)(d:x.cI t=true):cU t x=0:=by
 unfold cU;simp[c,b,d]
theorem sR {x:It}(h:x.may=true):x.right=true/\x.deep<=16/\x.count<=1024:=by
 simpa only[It.may,zz,zY,and_assoc]using h
theorem PJ {x:It}(c:x.right=true)(b:x.deep<=16)(d:x.count<=1024):x.may=true:=by
 simp only[It.may,zz,zY];exact⟨⟨c,b⟩,d⟩
theorem BS {t:Ty}{x:It}(h:fI t x M=0):t.flat=true/\cU t x=0/\(x.count:Int)<=M:=by
 unfold fI at h;cases h1:t.flat with
 |false=>rw[zi h1]at h;cases h
 |true=>
  rw[zh (by simp[h1])]at h;by_cases b:cU t x≠0
  ·rw[zi b]at h;exact absurd h b
  rw[zh b]at h;by_cases c:M<x.count
  ·rw[zi c]at h;cases h
  exact⟨rfl,zH.1 b,by omega⟩
theorem Fi (t:Ty)(s:ByteArray)(M:Int)(h:(dv t s M).1=0):fI t (dv t s M).2.1 M=0/\(dv t s M).2.2<=s.size/\(dv t s M).2.1.lay t=s.data.toList.take (dv t s M).2.2:=by
 unfold dv at h⊢;cases h1:t.flat with
 |false=>rw[zi h1]at h;cases h
 |true=>
  rw[zh (by simp[h1])]at h⊢;by_cases c:(oo t s M).e≠0
  ·rw[zi c]at h;exact absurd h c
  rw[zh c];obtain⟨d,i,l,k,n⟩:=jI h1;have b:=MM (min M 1024) (by omega) t 0 s.data.toList i (zH.1 c);change TC (min M 1024) t 0 s.data.toList (oo t s M)at b
  generalize oo t s M=R at*;have e:=xu List.length b.lay;rw[zj,aa]at e;have m:=b.many;have j:=b.num;have hd:=b.deep;refine⟨?_,by simp only;omega, ?_⟩
  ·unfold fI;simp only;rw[zh (by simp[h1]),WV d (PJ b.right (by omega) (by omega)) b.cI,zh (by simp),zh (by omega)]
  simp only;rw[b.lay,show s.size-R.q.length=(R.x.lay t).length from by omega,ZE rfl]
theorem IA (t:Ty)(s:ByteArray)(M:Int)(h:(jH t s M).1=0):fI t (jH t s M).2 M=0/\(jH t s M).2.lay t=s.data.toList:=by
 unfold jH at h⊢;by_cases b:(dv t s M).1≠0
 ·rw[zi b]at h;exact absurd h b
 rw[zh b]at h⊢;by_cases c:(dv t s M).2.2<s.size
 ·rw[zi c]at h;cases h
 rw[zh c];obtain⟨d,a2,a3⟩:=Fi t s M (zH.1 b);refine⟨d, ?_⟩;rw[a3,zv (by rw[aa];omega)]
def gP (xs:List It):It:= .mk ByteArray.empty true xs
def fin (D M:Int)(s:ByteArray):List It->Nat->List (List It×Nat)->Nat->Nat->Rd
 |acc,en,[],at_,count=>
  if(cV D M (s.extract at_ en) 2 count).e≠0 then Rd.bad (cV D M (s.extract at_ en) 2 count).e
  else⟨gP (acc++(cV D M (s.extract at_ en) 2 count).xs),en,count+(cV D M (s.extract at_ en) 2 count).items,0⟩
 |acc,en,f::rest,at_,count=>
  if(cV D M (s.extract at_ en) (rest.length+3) count).e≠0 then Rd.bad (cV D M (s.extract at_ en) (rest.length+3) count).e
  else fin D M s (f.1++ [gP (acc++(cV D M (s.extract at_ en) (rest.length+3) count).xs)]) f.2 rest en (count+(cV D M (s.extract at_ en) (rest.length+3) count).items)
def MN (D M:Int)(s:ByteArray)(acc:List It)(en:Nat)(rest:List (List It×Nat))(count:Nat)(R:KE):Rd:=
 if R.e≠0 then Rd.bad R.e
 else match rest with
  | []=>⟨gP (acc++R.xs),en,count+R.items,0⟩
  |f::rest=>fin D M s (f.1++ [gP (acc++R.xs)]) f.2 rest en (count+R.items)
theorem vu (D M:Int)(s:ByteArray)(acc:List It)(b:Nat)(rest:List (List It×Nat))(at_ count:Nat):fin D M s acc b rest at_ count=MN D M s acc b rest count (cV D M (s.extract at_ b) (rest.length+2) count):=by
 cases rest with
 |nil=>rw[fin];rfl
 |cons f rest=>rw[fin];rfl
theorem CT (s:ByteArray)(a b i j:Nat)(c:a+j<=b):(s.extract a b).extract i j=s.extract (a+i) (a+j):=by
 apply aF;rw[ar,ar,ar,List.take_drop,xO,xw,yD (by omega)]
theorem BT (D M:Int)(s:ByteArray)(acc:List It)(c:Nat)(rest:List (List It×Nat))(count k:Nat)(x:It)(R R':KE)(h:R=(if R'.e≠0 then KE.bad R'.e else⟨x::R'.xs,k+R'.items,0⟩)):
 MN D M s acc c rest count R=MN D M s (acc++ [x]) c rest (count+k) R':=by
 subst h;unfold MN;by_cases b:R'.e≠0
 ·rw[zi b,zi b,zi (by exact b)];rfl
 rw[zh b,zh b,zh (by simp)];cases rest with
 |nil=>simp[yi]
 |cons f rest=>simp[yi]
theorem MO (D M:Int):∀(z:Nat) (s:ByteArray) (deep ahead:Nat),s.size<=z->(cV D M s deep ahead).e≠2:=by
 intro z;induction z with
 |zero=>intro s deep ahead h;rw[jx _ _ _ _ _ (by omega)];simp
 |succ z ih=>
  intro s deep ahead h;by_cases d:s.size=0
  ·rw[jx _ _ _ _ _ d];simp
  rw[ik D M s deep ahead d _ rfl];have c:=mZ D M (2*s.size+2) s deep ahead;change(bq D M s deep ahead).e=0->1<=(bq D M s deep ahead).size/\(bq D M s deep ahead).size<=s.size at c
  generalize bq D M s deep ahead=R at*;by_cases b:R.e≠0
  ·rw[zi b];show within R.e≠2
   unfold within;split<;>omega
  rw[zh b];have c:=c (zH.1 b);have i:(s.extract R.size s.size).size=s.size-R.size:=aq _ _ _ (zg _);have e:=ih (s.extract R.size s.size) deep (ahead+R.items) (by omega);split
  ·exact e
  simp
theorem TF (D M:Int)(s:ByteArray)(acc:List It)(b:Nat)(rest:List (List It×Nat))(at_ count:Nat)(i:at_<b)(d:b<=s.size)(H:Bool×Nat×Nat×Int)
 (e:hd (s.extract at_ b) (aH D (rest.length+2)) (aI M count)=H) (c:H.2.2.2≠0):fin D M s acc b rest at_ count=Rd.bad (within H.2.2.2):=by
 have hz:(s.extract at_ b).size=b-at_:=aq _ _ _ d;have h:within H.2.2.2≠0:=by unfold within;split<;>simp_all
 rw[vu,ik D M _ _ _ (by omega) _ rfl,dY D M _ _ _ H e,zi c,zi (show(Rd.bad H.2.2.2).e≠0 from c)];unfold MN;rw[zi (show(KE.bad (within (Rd.bad H.2.2.2).e)).e≠0 from h)];rfl
theorem PK (D M:Int)(s:ByteArray)(acc:List It)(b:Nat)(rest:List (List It×Nat))(at_ count:Nat)(k:at_<b)(h:b<=s.size)(H:Bool×Nat×Nat×Int)
 (d:hd (s.extract at_ b) (aH D (rest.length+2)) (aI M count)=H) (e:H.2.2.2=0) (i:H.1=false):
 fin D M s acc b rest at_ count=fin D M s (acc++ [.mk (s.extract (at_+H.2.1) (at_+H.2.1+H.2.2.1)) false []]) b rest (at_+H.2.1+H.2.2.1) (count+1)/\at_+H.2.1+H.2.2.1<=b:=by
 have hz:(s.extract at_ b).size=b-at_:=aq _ _ _ h;have c:=sP (s.extract at_ b) (aH D (rest.length+2)) (aI M count);rw[d]at c;have c:=c e;refine⟨?_,by omega⟩;have j:bq D M (s.extract at_ b) (rest.length+2) count=⟨.mk ((s.extract at_ b).extract H.2.1 (H.2.1+H.2.2.1)) false [],H.2.1+H.2.2.1,1,0⟩:=by
  rw[dY D M _ _ _ H d,zh (show¬H.2.2.2≠0 by simp[e]),zi i]
 rw[vu,vu];refine BT D M s acc b rest count 1 _ _ _ ?_;rw[ik D M _ _ _ (by omega) _ j];dsimp only;rw[zh (by simp),hz,CT s at_ b _ _ (by omega),CT s at_ b _ _ (by omega),show at_+(b-at_)=b from by omega,yi]
theorem PL (D M:Int)(s:ByteArray)(acc:List It)(b:Nat)(rest:List (List It×Nat))(at_ count:Nat)(o:at_<b)(k:b<=s.size)(H:Bool×Nat×Nat×Int)
 (e:hd (s.extract at_ b) (aH D (rest.length+2)) (aI M count)=H) (j:H.2.2.2=0) (h:H.1=true):
 fin D M s acc b rest at_ count=fin D M s [] (at_+H.2.1+H.2.2.1) ((acc,b)::rest) (at_+H.2.1) (count+1)/\at_+H.2.1+H.2.2.1<=b/\1<=H.2.1:=by
 have hz:(s.extract at_ b).size=b-at_:=aq _ _ _ k;have d:=sP (s.extract at_ b) (aH D (rest.length+2)) (aI M count);rw[e]at d;have d:=d j;refine⟨?_,by omega,d.2.2.2 h⟩;have i:=dY D M (s.extract at_ b) (rest.length+2) count H e;rw[zh (show¬H.2.2.2≠0 by simp[j]),zh (show¬H.1=false by simp[h]),CT s at_ b _ _ (by omega),<-yi,show rest.length+2+1=rest.length+3 from by omega]at i;rw[vu,ik D M _ _ _ (by omega) _ i,fin];have n:=MO D M (s.extract (at_+H.2.1) (at_+H.2.1+H.2.2.1)).size (s.extract (at_+H.2.1) (at_+H.2.1+H.2.2.1)) (rest.length+3) (count+1) (zg _);generalize cV D M (s.extract (at_+H.2.1) (at_+H.2.1+H.2.2.1)) (rest.length+3) (count+1)=R at*;by_cases c:R.e≠0
 ·have m:within R.e≠0:=by unfold within;split<;>simp_all
  have l:within R.e=R.e:=by unfold within;rw[zh n]
  rw[zi c,zi (show(Rd.bad R.e).e≠0 from c)];unfold MN;rw[zi (show(KE.bad (within (Rd.bad R.e).e)).e≠0 from m)];show Rd.bad (within R.e)=_
  rw[l,zi c]
 rw[zh c];dsimp only;rw[zh (by simp),vu,hz,CT s at_ b _ _ (by omega),show at_+(b-at_)=b from by omega,<-yi];refine(BT D M s acc b rest count (1+R.items) (gP R.xs) _ _ rfl).trans ?_;rw[zh c];simp[gP,yi]
theorem MP (D M:Int)(s:ByteArray)(acc:List It)(b:Nat)(f:List It×Nat)(rest:List (List It×Nat))(count:Nat)(c:b<=s.size):fin D M s acc b (f::rest) b count=fin D M s (f.1++ [gP acc]) f.2 rest b count:=by
 rw[fin,jx _ _ _ _ _ (by rw[aq _ _ _ c];omega)];simp
theorem PM (D M:Int)(s:ByteArray)(acc:List It)(b:Nat)(count:Nat)(c:b<=s.size):fin D M s acc b [] b count=⟨gP acc,b,count,0⟩:=by
 rw[fin,jx _ _ _ _ _ (by rw[aq _ _ _ c];omega)];simp
theorem rH (D M:Int)(s:ByteArray)(H:Bool×Nat×Nat×Int)(b:hd s (aH D 1) (aI M 0)=H):
 (H.2.2.2≠0->bq D M s 1 0=Rd.bad H.2.2.2)/\(H.2.2.2=0->H.1=false->bq D M s 1 0=⟨.mk (s.extract H.2.1 (H.2.1+H.2.2.1)) false [],H.2.1+H.2.2.1,1,0⟩)/\
 (H.2.2.2=0->H.1=true->bq D M s 1 0=fin D M s [] (H.2.1+H.2.2.1) [] H.2.1 1):=by
 refine⟨fun h=> ?_,fun h c=> ?_,fun h c=> ?_⟩
 ·rw[dY D M s 1 0 H b,zi h]
 ·rw[dY D M s 1 0 H b,zh (by simp[h]),zi c]
 rw[dY D M s 1 0 H b,zh (by simp[h]),zh (by simp[c]),fin];simp only[zG];split
 ·rfl
 simp[gP]
theorem eB (b n:Nat):(cJ b n).length=if n<=55 then 1 else 1+(cN n).length:=by unfold cJ;split<;>simp;omega
theorem Fj (s:ByteArray)(b n:Nat)(r:List UInt8)(x:b=128\/b=192)(c:s.data.toList=cJ b n++r)(w:n<=r.length)(u:n<18446744073709551616)(l:b=128->n=1->128<=(r.getD 0 0).toNat):
 AI s=(decide (b=192),(cJ b n).length,n,0):=by
 have hz:s.size=(cJ b n).length+r.length:=by rw[<-aa,c,zj]
 rw[eB]at hz⊢;by_cases h:n<=55
 ·rw[zi h]at hz⊢;rw[cJ,zi h]at c;have d:(s.data.toList.getD 0 0).toNat=b+n:=by rw[c,Zs,ZJ,bn _ (by omega)]
  have k:s.data.toList.getD 1 0=r.getD 0 0:=by rw[c,Zs,List.getD_cons_succ]
  unfold AI;rw[d,k];dsimp only;have i:(if 192<=b+n then b+n-192 else b+n-128)=n:=by split<;>omega
  have j:decide (192<=b+n)=decide (b=192):=by rw[yE];simp;omega
  rw[zh (by omega),i,j];simp only[zi h];rw[zh (by omega),zh];rintro⟨q,a2,a3⟩;have a4:b=128:=by
   have:b≠192:=by simpa using q
   omega
  have:=l a4 a2;omega
 rw[zh h]at hz⊢;rw[cJ,zh h]at c;have A:=gw 8 n (by simpa using u);have y:1<=(cN n).length:=by
  have:=KD n (by omega);cases hl:cN n with
  |nil=>exact absurd hl this
  |cons a b=>simp
 have p:=BQ n (by omega);have d:(s.data.toList.getD 0 0).toNat=b+55+(cN n).length:=by rw[c,zP,ZJ,bn _ (by omega)]
 have k:s.data.toList.getD 1 0=(cN n).getD 0 0:=by
  rw[c,zP,List.getD_cons_succ,zw,xC (by omega),<-zw]
 have m:(s.extract 1 (1+(cN n).length)).data.toList=cN n:=by
  rw[ar,c,zP,Zo 1,zO,zX,zJ,zW (zg _),Z8]
 have z:((cN n).getD 0 0).toNat≠0:=fun e=>p (zQ.1 e)
 unfold AI;rw[d,k];dsimp only;have i:(if 192<=b+55+(cN n).length then b+55+(cN n).length-192 else b+55+(cN n).length-128)=55+(cN n).length:=by split<;>omega
 have j:decide (192<=b+55+(cN n).length)=decide (b=192):=by rw[yE];simp;omega
 rw[zh (by omega),i,j];have o:¬55+(cN n).length<=55:=by omega
 simp only[zh o,Nat.add_sub_cancel_left,m,KC];rw[zh (by omega),zh (by omega),zh (by omega)]
theorem WW (s:ByteArray)(B:0<s.size)(H:Bool×Nat×Nat×Int)(u:AI s=H)(c:H.2.2.2=0):
 (H=(false,0,1,0)/\(s.data.toList.getD 0 0).toNat<128)\/
 (s.data.toList.take H.2.1=cJ (if H.1=true then 192 else 128) H.2.2.1/\1<=H.2.1/\H.2.1=(cJ (if H.1=true then 192 else 128) H.2.2.1).length/\¬(H.1=false/\H.2.2.1=1/\(s.data.toList.getD H.2.1 0).toNat<128)):=by
 subst u;have m:s.data.toList=s.data.toList.getD 0 0::s.data.toList.drop 1:=by
  have:=drop_cons s 0 B;rw[zJ]at this;rw[this];simp
 unfold AI at c⊢;dsimp only at c⊢;have w:=(s.data.toList.getD 0 0).toNat_lt;have p:ub (((s.data.toList.getD 0 0).toNat:Nat):Int)=s.data.toList.getD 0 0:=by
  apply zQ.1;rw[bn _ w]
 generalize C:(s.data.toList.getD 0 0).toNat=b at*;by_cases l:b<128
 ·rw[zi l];exact .inl ⟨rfl,l⟩
 rw[zh l]at c⊢;right;generalize r:(if 192<=b then b-192 else b-128)=d at*;have A:(if decide (192<=b)=true then 192 else 128)+d=b:=by
  rw[<-r];by_cases h:192<=b<;>simp[h];omega
 have D:d<=63:=by rw[<-r];split<;>omega
 by_cases k:d<=55
 ·simp only[zi k]at c⊢;by_cases i:s.size<1+d
  ·rw[zi i]at c;simp at c
  rw[zh i]at c⊢;split at c
  ·simp at c
  rename_i j
  rw[zh j];dsimp only;refine⟨?_,zg _, ?_,j⟩
  ·rw[m,zO,yu,cJ,zi k,A,p]
  rw[eB,zi k]
 simp only[zh k]at c⊢;by_cases i:s.size<1+(d-55)
 ·rw[zi i]at c;simp at c
 rw[zh i]at c⊢;split at c
 ·simp at c
 rename_i j
 rw[zh j];split at c
 ·simp at c
 rename_i y
 rw[zh y];dsimp only;have x:(s.data.toList.getD 1 0).toNat≠0:=by omega
 have z:(s.extract 1 (1+(d-55))).data.toList=(s.data.toList.drop 1).take (d-55):=by rw[ar,List.take_drop]
 have o:((s.data.toList.drop 1).take (d-55)).length=d-55:=by rw[zV,zS,aa];omega
 have q:cN (lK (s.extract 1 (1+(d-55))).data.toList)=(s.data.toList.drop 1).take (d-55):=by
  rw[z];refine Fa _ ?_;rw[zw,yA (by omega),xx,<-zw];intro e;apply x;rw[show 1+0=1 from rfl]at e;rw[e];rfl
 generalize lK (s.extract 1 (1+(d-55))).data.toList=n at*;refine⟨?_,by omega, ?_, ?_⟩
 ·rw[cJ,zh (by omega),q,o];rw[m,Zo 1 (d-55),zO,zX,zJ];congr 1
  rw[<-p];congr 2;omega
 ·rw[eB,zh (by omega),q,o]
 omega
theorem Vs (s:ByteArray)(d m:Bool)(h:(hd s d m).2.2.2=0):0<s.size/\d=false/\m=false/\hd s d m=AI s:=by
 unfold hd at h⊢;by_cases e:s.size=0
 ·rw[zi e]at h;simp at h
 rw[zh e]at h⊢;by_cases c:d=true
 ·rw[zi c]at h;simp at h
 rw[zh c]at h⊢;by_cases b:m=true
 ·rw[zi b]at h;simp at h
 rw[zh b];exact⟨by omega,by simpa using c,by simpa using b,rfl⟩
theorem vw {D:Int}{deep:Nat}:aH D deep=false↔(deep:Int)<=D/\deep<=16:=by simp[aH]
theorem pa {ahead:Nat}:aI M ahead=false↔(ahead:Int)+1<=M/\ahead+1<=1024:=by simp[aI]
structure ab' (D M:Int)(x:It)(l:List UInt8)(deep ahead items:Nat):Prop where
 fO:x.fO=l
 right:x.right=true
 items:items=x.count
 deepD:(deep:Int)+x.deep<=D+1
 deep16:deep+x.deep<=17
 manyM:(ahead:Int)+x.count<=M
 many:ahead+x.count<=1024
structure Vt (D M:Int)(xs:List It)(l:List UInt8)(deep ahead items:Nat):Prop where
 fO:fy xs=l
 right:bH xs=true
 items:items=ay xs
 deepD:xs≠ []->(deep:Int)+bA xs<=D+1
 deep16:xs≠ []->deep+bA xs<=17
 manyM:xs≠ []->(ahead:Int)+ay xs<=M
 many:xs≠ []->ahead+ay xs<=1024
theorem PN (x:It):1<=x.deep:=by cases x;simp[It.deep]
theorem TG (D M:Int):∀(z:Nat),(∀(s:ByteArray) (deep ahead:Nat),s.size<=z->(bq D M s deep ahead).e=0->ab' D M (bq D M s deep ahead).x (s.data.toList.take (bq D M s deep ahead).size) deep ahead (bq D M s deep ahead).items)/\
 (∀(s:ByteArray) (deep ahead:Nat),s.size<=z->(cV D M s deep ahead).e=0->Vt D M (cV D M s deep ahead).xs s.data.toList deep ahead (cV D M s deep ahead).items):=by
 have K:∀(s:ByteArray) (deep ahead:Nat),s.size=0->Vt D M (cV D M s deep ahead).xs s.data.toList deep ahead (cV D M s deep ahead).items:=by
  intro s deep ahead h;rw[jx _ _ _ _ _ h];have:s.data.toList= []:=zo (by rw[aa];exact h);rw[this];exact⟨rfl,rfl,rfl,by simp,by simp,by simp,by simp⟩
 intro z;induction z with
 |zero=>
  refine⟨fun s deep ahead hz d=> ?_,fun s deep ahead hz _=>K s deep ahead (by omega)⟩;rw[dY D M s deep ahead _ rfl]at d;have:hd s (aH D deep) (aI M ahead)=(false,0,0,2):=by simp[hd,show s.size=0 by omega]
  rw[this]at d;simp[Rd.bad]at d
 |succ z ih=>
  obtain⟨ae,G⟩:=ih;have N:∀(s:ByteArray) (deep ahead:Nat),s.size<=z+1->(bq D M s deep ahead).e=0->ab' D M (bq D M s deep ahead).x (s.data.toList.take (bq D M s deep ahead).size) deep ahead (bq D M s deep ahead).items:=by
   intro s deep ahead hz d;have c:=dY D M s deep ahead _ rfl;have o:=Vs s (aH D deep) (aI M ahead);have m:=sP s (aH D deep) (aI M ahead);generalize hd s (aH D deep) (aI M ahead)=H at*;by_cases j:H.2.2.2≠0
   ·rw[zi j]at c;rw[c]at d;exact absurd d j
   have y:=zH.1 j;obtain⟨Y,Z,X,S⟩:=o y;obtain⟨_,J,YA,U⟩:=m y;obtain⟨d1,d2⟩:=vw.1 Z;obtain⟨m1,m2⟩:=pa.1 X;have his:=WW s Y H S.symm y;rw[zh j]at c;by_cases i:H.1=false
   ·rw[zi i]at c;rw[c];dsimp only;have k:(s.extract H.2.1 (H.2.1+H.2.2.1)).size=H.2.2.1:=by rw[aq _ _ _ J];omega
    have n:s.data.toList.take H.2.1++(s.extract H.2.1 (H.2.1+H.2.2.1)).data.toList=s.data.toList.take (H.2.1+H.2.2.1):=by
     rw[ar];have:=zC H.2.1 (s.data.toList.take (H.2.1+H.2.2.1));rwa [xw,yD (by omega)]at this
    refine⟨?_,by simp[It.right,formed,bH],by simp[It.count,ay],by simp[It.deep,bA];omega,by simp[It.deep,bA];omega,by simp[It.count,ay];omega,by simp[It.count,ay];omega⟩;have r:(s.extract H.2.1 (H.2.1+H.2.2.1)).data.toList.getD 0 0=if H.2.2.1=0 then 0 else s.data.toList.getD H.2.1 0:=by
     rw[ar,zw,xx];split
     ·rename_i h;rw[xa (by rw[zV];omega)];rfl
     rw[yA (by omega),<-zw];rfl
    rcases his with⟨E,W⟩|⟨l,h4,I,L⟩
    ·rw[E]at k n r⊢;dsimp only at*;rw[It.fO,zh (by simp),zi ⟨k,by rw[r];simpa using W⟩,<-n];simp
    rw[It.fO,zh (by simp),zh (by rintro⟨a,b⟩;apply L;rw[k]at a;rw[r,zh (by omega)]at b;exact⟨i,a,b⟩),k,<-n,l,zh (by simp[i])]
   rw[zh i]at c;have O:H.1=true:=by simpa using i
   have k:(s.extract H.2.1 (H.2.1+H.2.2.1)).size=H.2.2.1:=by rw[aq _ _ _ J];omega
   have ad:=U O;have hS:=G (s.extract H.2.1 (H.2.1+H.2.2.1)) (deep+1) (ahead+1) (by omega);have n:s.data.toList.take H.2.1++(s.extract H.2.1 (H.2.1+H.2.2.1)).data.toList=s.data.toList.take (H.2.1+H.2.2.1):=by
    rw[ar];have:=zC H.2.1 (s.data.toList.take (H.2.1+H.2.2.1));rwa [xw,yD (by omega)]at this
   generalize cV D M (s.extract H.2.1 (H.2.1+H.2.2.1)) (deep+1) (ahead+1)=R at*;by_cases l:R.e≠0
   ·rw[zi l]at c;rw[c]at d;exact absurd d l
   rw[zh l]at c;rw[c];dsimp only;obtain⟨x,q,C,F,u,w,p⟩:=hS (zH.1 l);have A:R.xs= []\/R.xs≠ []:=by cases R.xs<;>simp
   refine⟨?_,by simp[It.right,formed,q],by simp[It.count,C], ?_, ?_, ?_, ?_⟩
   ·rcases his with⟨E,_⟩|⟨I,L,h7,h8⟩
    ·rw[E]at i;simp at i
    rw[It.fO,zi rfl,x,aa,k,<-n,I,zi O]
   all_goals
    rcases A with e|e
    ·rw[e];simp[It.deep,bA,It.count,ay];try omega
    first
    |(have:=F e;simp only[It.deep];omega)
    |(have:=u e;simp only[It.deep];omega)
    |(have:=w e;simp only[It.count];omega)
    |(have:=p e;simp only[It.count];omega)
  refine⟨N,fun s deep ahead hz d=> ?_⟩;by_cases o:s.size=0
  ·exact K s deep ahead o
  have c:=ik D M s deep ahead o _ rfl;have B:=N s deep ahead hz;have m:=mZ D M (2*s.size+2) s deep ahead;change(bq D M s deep ahead).e=0->1<=(bq D M s deep ahead).size/\(bq D M s deep ahead).size<=s.size at m
  generalize bq D M s deep ahead=R at*;by_cases j:R.e≠0
  ·rw[zi j]at c;rw[c]at d;have:within R.e≠0:=by unfold within;split<;>simp_all
   exact absurd d this
  have B:=B (zH.1 j);have m:=m (zH.1 j);rw[zh j]at c;have ab:(s.extract R.size s.size).size=s.size-R.size:=aq _ _ _ (zg _);have hS:=G (s.extract R.size s.size) deep (ahead+R.items) (by omega);generalize cV D M (s.extract R.size s.size) deep (ahead+R.items)=T at*;by_cases i:T.e≠0
  ·rw[zi i]at c;rw[c]at d;exact absurd d i
  rw[zh i]at c;rw[c];dsimp only;obtain⟨a1,a2,a3,a4,a5,a6,a7⟩:=B;obtain⟨x,q,C,F,u,w,p⟩:=hS (zH.1 i);have A:T.xs= []\/T.xs≠ []:=by cases T.xs<;>simp
  refine⟨?_,by simp[bH,a2,q],by simp[ay,a3,C],fun _=> ?_,fun _=> ?_,fun _=> ?_,fun _=> ?_⟩
  ·rw[fy,a1,x,ar,dq,zC]
  all_goals
   rcases A with e|e
   ·rw[e];simp only[bA,ay];omega
   have:=F e;have:=u e;have:=w e;have:=p e;simp only[bA,ay];omega
theorem WX (D M:Int)(x:It):∀(s:ByteArray) (more:List UInt8) (deep ahead:Nat),s.data.toList=x.fO++more->s.size<18446744073709551616->x.right=true->(deep:Int)+x.deep<=D+1->deep+x.deep<=17->(ahead:Int)+x.count<=M->ahead+x.count<=1024->
 bq D M s deep ahead=⟨.mk (if x.list=true then ByteArray.empty else x.text) x.list x.sub,x.fO.length,x.count,0⟩:=by
 induction x using It.ind with
 |h t l xs ih=>
  intro s more deep ahead c Z k R r G K;have hz:s.size=(It.mk t l xs).fO.length+more.length:=by rw[<-aa,c,zj]
  have OO:=PN (.mk t l xs);have Y:=BC (.mk t l xs);have m:0<s.size->hd s (aH D deep) (aI M ahead)=AI s:=by
   intro h;unfold hd;rw[zh (by omega),vw.2 (by omega),pa.2 (by omega)];simp
  cases l with
  |false=>
   have S:xs= []:=by
    simp only[It.right,formed,zz]at k;exact zo (by simpa using k.1)
   subst S;rw[It.fO,zh (by simp)]at c hz⊢;by_cases j:t.size=1/\(t.data.toList.getD 0 0).toNat<128
   ·rw[zi j]at c hz⊢;rw[aa]at hz;have w:s.data.toList.getD 0 0=t.data.toList.getD 0 0:=by
     rw[c,zw,xC (by rw[aa];omega),<-zw]
    have d:hd s (aH D deep) (aI M ahead)=(false,0,1,0):=by
     rw[m (by omega)];unfold AI;rw[w];dsimp only;rw[zi j.2]
    rw[dY D M s deep ahead _ d];simp only[It.ud,It.uc,It.gI,It.count,ay];have:s.extract 0 (0+1)=t:=by
     apply aF;rw[ar,c,zJ,zW (by rw[aa];omega),zv (by rw[aa];omega)]
    simp[this,j.1]
   rw[zh j]at c hz⊢;rw[zB]at c;have d:hd s (aH D deep) (aI M ahead)=(decide (128=192),(cJ 128 t.size).length,t.size,0):=by
    rw[zj,aa]at hz;have C:1<=(cJ 128 t.size).length:=by rw[eB];split<;>omega
    rw[m (by omega)];refine Fj s 128 t.size _ (.inl rfl) c (by simp) (by omega) ?_;intro _ L;have:((t.data.toList++more).getD 0 0)=t.data.toList.getD 0 0:=by
     rw[zw,xC (by rw[aa];omega),<-zw]
    rw[this];exact Nat.le_of_not_lt fun h=>j ⟨L,h⟩
   rw[dY D M s deep ahead _ d];simp only[It.ud,It.uc,It.gI,It.count,ay];have:s.extract (cJ 128 t.size).length ((cJ 128 t.size).length+t.size)=t:=by
    apply aF;rw[ar,c,<-zB,zW (by rw[zj,aa];omega),zv (by rw[zj,aa];omega),List.drop_left]
   simp[this]
  |true=>
   rw[It.fO,zi rfl]at c hz⊢;rw[zB]at c;rw[zj]at hz;have C:1<=(cJ 192 (fy xs).length).length:=by rw[eB];split<;>omega
   have d:hd s (aH D deep) (aI M ahead)=(decide (192=192),(cJ 192 (fy xs).length).length,(fy xs).length,0):=by
    rw[m (by omega)];exact Fj s 192 (fy xs).length _ (.inr rfl) c (by simp) (by omega) (by omega)
   have n:(s.extract (cJ 192 (fy xs).length).length ((cJ 192 (fy xs).length).length+(fy xs).length)).data.toList=fy xs:=by
    rw[ar,c,<-zB,zW (by rw[zj];omega),zv (by rw[zj];omega),List.drop_left]
   rw[dY D M s deep ahead _ d];simp only[It.ud,It.uc,It.gI];rw[zh (by simp),zh (by simp)];simp only[It.right,zz]at k;have q:=k.2;have W:(deep:Int)+1+bA xs<=D+1:=by simp only[It.deep]at R;omega
   have J:deep+1+bA xs<=17:=by simp only[It.deep]at r;omega
   have ab:(ahead:Int)+1+ay xs<=M:=by simp only[It.count]at G;omega
   have ad:ahead+1+ay xs<=1024:=by simp only[It.count]at K;omega
   have X:∀(b:List It),(∀y∈b,y∈xs)->∀(u:ByteArray) (a:Nat),u.data.toList=fy b->u.size<18446744073709551616->bH b=true->(deep:Int)+1+bA b<=D+1->deep+1+bA b<=17->(a:Int)+ay b<=M->a+ay b<=1024->bH b=true->
    cV D M u (deep+1) a=⟨b,ay b,0⟩:=by
    intro b;induction b with
    |nil=>
     intro _ u a hu _ _ _ _ _ _ _;rw[jx _ _ _ _ _ (by rw[<-aa,hu];rfl)];rfl
    |cons y b ihy=>
     intro o u a hu A i B E O U _;simp only[bH,zz]at i;simp only[bA]at B E;simp only[ay]at O U;rw[fy]at hu;have p:=ih y (o y (by simp)) u (fy b) (deep+1) a hu A i.1 (by omega) (by omega) (by omega) (by omega);have H:(It.mk (if y.list=true then ByteArray.empty else y.text) y.list y.sub)=y:=by
      cases y with
      |mk t' l' s'=>
       simp only[It.uc,It.ud,It.gI];cases l' with
       |false=>simp
       |true=>
        have F:t'.size=0:=by
         have:=i.1;simp only[It.right,formed,zz]at this;simpa using this.1
        have:t'=ByteArray.empty:=aF (by rw[zo (show t'.data.toList.length=0 by rw[aa];exact F)];rfl);rw[this];simp
     have e:=mZ D M (2*u.size+2) u (deep+1) a;change(bq D M u (deep+1) a).e=0->1<=(bq D M u (deep+1) a).size/\(bq D M u (deep+1) a).size<=u.size at e
     rw[p]at e;have e:=e rfl;dsimp only at e;rw[ik D M u (deep+1) a (by omega) _ p];dsimp only;rw[zh (by simp)];have I:(u.extract y.fO.length u.size).data.toList=fy b:=by rw[ar,dq,hu,List.drop_left]
     have N:=ihy (fun z hz=>o z (by simp[hz])) (u.extract y.fO.length u.size) (a+y.count) I (by rw[aq _ _ _ (zg _)];omega) i.2 (by omega) (by omega) (by omega) (by omega) i.2;rw[N];dsimp only;rw[zh (by simp),H,ay]
   rw[X xs (fun _ h=>h) _ _ n (by rw[<-aa,n];omega) q W J (by omega) (by omega) q];dsimp only;rw[zh (by simp),zj,It.count];simp
theorem TH (D M:Int)(x:It)(s:ByteArray)(more:List UInt8)(deep ahead:Nat)(k:s.data.toList=x.fO++more)(e:s.size<18446744073709551616)(b:x.right=true)(h:(deep:Int)+x.deep<=D+1)(c:deep+x.deep<=17)(i:(ahead:Int)+x.count<=M)(j:ahead+x.count<=1024):
 bq D M s deep ahead=⟨x,x.fO.length,x.count,0⟩:=by
 rw[WX D M x s more deep ahead k e b h c i j];cases x with
 |mk t l xs=>
  cases l with
  |false=>rfl
  |true=>
   have d:t.size=0:=by
    simp only[It.right,formed,zz]at b;simpa using b.1
   have:t=ByteArray.empty:=aF (by rw[zo (show t.data.toList.length=0 by rw[aa];exact d)];rfl);subst this;rfl
