/- Items as bytes: plain functions and their laws. -/
import Derived.Test.YtimoclkoflamkaaGreatDoorKA4
set_option linter.all false
namespace Go.Proofs.YtimoclkoflamkaaGreatDoor
variable {M z d:Int}{m n:Nat}
def zl:=@beq_eq_false_iff_ne
def zA:=@List.getElem_mem
def zD:=@decide_eq_true
def zX:=@of_decide_eq_true
def yQ:=@List.getElem_cons_zero
def xa:=@Nat.add_zero
def Zq:=@Bool.and_true
def ZX:=@List.drop_left'
def Z1:=@List.getD_cons_zero
def Yz:=@List.length_eq_one_iff
theorem LO (n:Nat):mL (cJ n)=n:=by
 induction n using Nat.strongRecOn with
 |ind n ih=>
  by_cases h:n=0
  ·subst h;rw[dq];rfl
  rw[gP h,vN,ih (n/256) (by omega),bn _ (by omega)];omega
theorem LP (n:Nat)(h:n≠0):cJ n≠ []:=by rw[gP h];simp
theorem CN (n:Nat)(h:n≠0):(cJ n).getD 0 0≠0:=by
 induction n using Nat.strongRecOn with
 |ind n ih=>
  rw[gP h];by_cases c:n/256=0
  ·rw[c,dq,yo];intro e;have d:=bn (n%256) (by omega);simp only[Z1]at e;rw[e]at d;simp at d;omega
  have:=ih (n/256) (by omega) c;cases hl:cJ (n/256)with
  |nil=>exact absurd hl (LP _ c)
  |cons a b=>rw[hl]at this;simpa using this
theorem Ge (l:List UInt8)(h:l.getD 0 0≠0):cJ (mL l)=l:=by
 obtain⟨k,d⟩:∃k,l.length=k:=⟨_,rfl⟩
 induction k generalizing l with
 |zero=>obtain rfl:=zk d;simp at h
 |succ k ih=>
  have c:l≠ []:=by intro e;subst e;simp at d
  have e:=List.dropLast_concat_getLast c;have q:=(l.getLast c).toNat_lt;by_cases o:k=0
  ·subst o;match l,d with
   | [b],_=>
    have n:b.toNat≠0:=fun e=>h (by simp;exact zP.1 e)
    have r:=b.toNat_lt;have m:mL [b]=b.toNat:=by simp[mL,dg]
    rw[m,gP n,show b.toNat/256=0 from by omega,dq,yo];congr 1
    apply zP.1;rw[bn _ (by omega)];omega
  have j:l.dropLast.getD 0 0≠0:=by
   have:l.dropLast.getD 0 0=l.getD 0 0:=by
    rw[zu,zu,List.getElem?_dropLast,zg (by omega)]
   rw[this];exact h
  have i:=ih l.dropLast j (by rw[List.length_dropLast];omega);rw[<-e,vN,gP,show(256*mL l.dropLast+(l.getLast c).toNat)/256=mL l.dropLast from by omega,i]
  ·congr 2
   apply zP.1;rw[bn _ (by omega)];omega
  intro p;have:mL l.dropLast=0:=by omega
  rw[this,dq]at i;rw[<-i]at j;simp at j
def cF (b n:Nat):List UInt8:=if n<=55 then [ub ((b+n:Nat):Int)]else ub ((b+55+(cJ n).length:Nat):Int)::cJ n
mutual
def It.fB :It->List UInt8
 | .mk t l s=>if l=true then cF 192 (fu s).length++fu s else if t.size=1/\(t.data.toList.getD 0 0).toNat<128 then t.data.toList else cF 128 t.size++t.data.toList
def fu :List It->List UInt8
 | []=> []
 |x::xs=>x.fB++fu xs
end
def kZ (b:List UInt8):List UInt8:=cF 192 b.length++b
def eu (xs:List It)(b:List UInt8)(rest:List (List It×List UInt8)):List UInt8:=rest.foldl (fun inner f=>f.2++(kZ inner++fu f.1)) (b++fu xs)
theorem pI (b c:List UInt8)(d:List It)(rest:List (List It×List UInt8)):eu [] b ((d,c)::rest)=eu d (c++kZ b) rest:=by simp[eu,fu]
theorem nr (x:It)(xs:List It)(b:List UInt8)(rest:List (List It×List UInt8)):eu (x::xs) b rest=eu xs (b++x.fB) rest:=by simp[eu,fu]
theorem Gf (t:ByteArray)(s:List It)(xs:List It)(b:List UInt8)(rest:List (List It×List UInt8)):eu (.mk t true s::xs) b rest=eu s [] ((xs,b)::rest):=by simp[eu,fu,It.fB,kZ]
def CO (s:ByteArray):Bool×Nat×Nat×Int:=
 let b:=(s.data.toList.getD 0 0).toNat
 if b<128 then(false,0,1,0)
 else
  let l:=decide (192<=b)
  let told:=if 192<=b then b-192 else b-128
  let size:=if told<=55 then 1 else 1+(told-55)
  let n:=if told<=55 then told else mL (s.extract 1 size).data.toList
  if told<=55 then
   if s.size<size+n then(false,0,0,2)
   else if l=false/\n=1/\(s.data.toList.getD 1 0).toNat<128 then(false,0,0,3)
   else(l,1,told,0)
  else
   if s.size<size then(false,0,0,2)
   else if(s.data.toList.getD 1 0).toNat=0\/n<=55 then(false,0,0,3)
   else if s.size<size+n then(false,0,0,2)
   else(l,size,n,0)
def hd (s:ByteArray)(deep many:Bool):Bool×Nat×Nat×Int:=
 if s.size=0 then(false,0,0,2)else if deep=true then(false,0,0,6)else if many=true then(false,0,0,4)else CO s
theorem aad (s:ByteArray)(k:0<s.size)(h:(CO s).2.2.2=0):(CO s).2.1+(CO s).2.2.1<=s.size/\1<=(CO s).2.1+(CO s).2.2.1/\((CO s).1=true->1<=(CO s).2.1):=by
 unfold CO at h⊢;dsimp only at h⊢;generalize (s.data.toList.getD 0 0).toNat=b at*;by_cases i:b<128
 ·rw[zg i]at h⊢;dsimp only;refine⟨by omega,by omega,by simp⟩
 rw[zf i]at h⊢;generalize (if 192<=b then b-192 else b-128)=told at*;by_cases e:told<=55
 ·simp only[zg e]at h⊢;by_cases c:s.size<1+told
  ·rw[zg c]at h;simp at h
  rw[zf c]at h⊢;split at h
  ·simp at h
  rename_i d;rw[zf d];dsimp only;refine⟨by omega,by omega,fun _=>by omega⟩
 simp only[zf e]at h⊢;generalize mL (s.extract 1 (1+(told-55))).data.toList=n at*;by_cases c:s.size<1+(told-55)
 ·rw[zg c]at h;simp at h
 rw[zf c]at h⊢;split at h
 ·simp at h
 rename_i d
 rw[zf d];split at h
 ·simp at h
 rename_i j
 rw[zf j];dsimp only;refine⟨by omega,by omega,fun _=>by omega⟩
theorem tI (s:ByteArray)(d m:Bool)(h:(hd s d m).2.2.2=0):0<s.size/\(hd s d m).2.1+(hd s d m).2.2.1<=s.size/\1<=(hd s d m).2.1+(hd s d m).2.2.1/\((hd s d m).1=true->1<=(hd s d m).2.1):=by
 unfold hd at h⊢;by_cases c:s.size=0
 ·rw[zg c]at h;simp at h
 rw[zf c]at h⊢;by_cases b:d=true
 ·rw[zg b]at h;simp at h
 rw[zf b]at h⊢;by_cases e:m=true
 ·rw[zg e]at h;simp at h
 rw[zf e]at h⊢;exact⟨by omega,aad s (by omega) h⟩
structure Rd where
 x:It
 size:Nat
 items:Nat
 e:Int
structure LQ where
 xs:List It
 items:Nat
 e:Int
def kG :It:= .mk ByteArray.empty false []
def Rd.bad (e:Int):Rd:=⟨kG,0,0,e⟩
def LQ.bad (e:Int):LQ:=⟨[],0,e⟩
def aG (D:Int)(deep:Nat):Bool:=decide (D<deep)||decide (16<deep)
def aH (M:Int)(ahead:Nat):Bool:=decide (M<ahead+1)||decide (1024<ahead+1)
def within (e:Int):Int:=if e=2 then 3 else e
mutual
def qH (D M:Int):Nat->ByteArray->Nat->Nat->Rd
 |0,_,_,_=>Rd.bad 2
 |f+1,s,deep,ahead=>
  if(hd s (aG D deep) (aH M ahead)).2.2.2≠0 then Rd.bad (hd s (aG D deep) (aH M ahead)).2.2.2
  else if(hd s (aG D deep) (aH M ahead)).1=false then
   ⟨.mk (s.extract (hd s (aG D deep) (aH M ahead)).2.1 ((hd s (aG D deep) (aH M ahead)).2.1+(hd s (aG D deep) (aH M ahead)).2.2.1)) false [],
    (hd s (aG D deep) (aH M ahead)).2.1+(hd s (aG D deep) (aH M ahead)).2.2.1,1,0⟩
  else
   if(Gg D M f (s.extract (hd s (aG D deep) (aH M ahead)).2.1 ((hd s (aG D deep) (aH M ahead)).2.1+(hd s (aG D deep) (aH M ahead)).2.2.1)) (deep+1) (ahead+1)).e≠0
   then Rd.bad (Gg D M f (s.extract (hd s (aG D deep) (aH M ahead)).2.1 ((hd s (aG D deep) (aH M ahead)).2.1+(hd s (aG D deep) (aH M ahead)).2.2.1)) (deep+1) (ahead+1)).e
   else⟨.mk ByteArray.empty true (Gg D M f (s.extract (hd s (aG D deep) (aH M ahead)).2.1 ((hd s (aG D deep) (aH M ahead)).2.1+(hd s (aG D deep) (aH M ahead)).2.2.1)) (deep+1) (ahead+1)).xs,
    (hd s (aG D deep) (aH M ahead)).2.1+(hd s (aG D deep) (aH M ahead)).2.2.1,
    1+(Gg D M f (s.extract (hd s (aG D deep) (aH M ahead)).2.1 ((hd s (aG D deep) (aH M ahead)).2.1+(hd s (aG D deep) (aH M ahead)).2.2.1)) (deep+1) (ahead+1)).items,0⟩
def Gg (D M:Int):Nat->ByteArray->Nat->Nat->LQ
 |0,_,_,_=>LQ.bad 2
 |f+1,s,deep,ahead=>
  if s.size=0 then⟨[],0,0⟩
  else if(qH D M f s deep ahead).e≠0 then LQ.bad (within (qH D M f s deep ahead).e)
  else if(Gg D M f (s.extract (qH D M f s deep ahead).size s.size) deep (ahead+(qH D M f s deep ahead).items)).e≠0
   then LQ.bad (Gg D M f (s.extract (qH D M f s deep ahead).size s.size) deep (ahead+(qH D M f s deep ahead).items)).e
  else⟨(qH D M f s deep ahead).x::(Gg D M f (s.extract (qH D M f s deep ahead).size s.size) deep (ahead+(qH D M f s deep ahead).items)).xs,
   (qH D M f s deep ahead).items+(Gg D M f (s.extract (qH D M f s deep ahead).size s.size) deep (ahead+(qH D M f s deep ahead).items)).items,0⟩
end
theorem nw (D M:Int)(f:Nat)(s:ByteArray)(deep ahead:Nat)(h:(qH D M f s deep ahead).e=0):1<=(qH D M f s deep ahead).size/\(qH D M f s deep ahead).size<=s.size:=by
 cases f with
 |zero=>simp[qH,Rd.bad]at h
 |succ f=>
  rw[qH]at h⊢;have d:=tI s (aG D deep) (aH M ahead);generalize hd s (aG D deep) (aH M ahead)=H at*;by_cases b:H.2.2.2≠0
  ·rw[zg b]at h;exact absurd h b
  rw[zf b]at h⊢;have d:=d (zC.1 b);by_cases e:H.1=false
  ·rw[zg e];dsimp only;omega
  rw[zf e]at h⊢;split at h
  ·rename_i c;exact absurd h c
  rename_i c;rw[zf c];dsimp only;omega
theorem DU (D M:Int):∀(z:Nat),(∀(s:ByteArray) (deep ahead f g:Nat),s.size<=z->2*s.size<=f->2*s.size<=g->qH D M f s deep ahead=qH D M g s deep ahead)/\
 (∀(s:ByteArray) (deep ahead f g:Nat),s.size<=z->2*s.size+1<=f->2*s.size+1<=g->Gg D M f s deep ahead=Gg D M g s deep ahead):=by
 intro z;induction z with
 |zero=>
  refine⟨fun s deep ahead f g hz _ _=> ?_,fun s deep ahead f g hz h i=> ?_⟩
  ·have e:s.size=0:=by omega
   have o:∀d m,hd s d m=(false,0,0,2):=fun d m=>by simp[hd,e]
   have:∀f,qH D M f s deep ahead=Rd.bad 2:=by
    intro f;cases f with
    |zero=>rfl
    |succ f=>rw[qH];simp[o]
   rw[this f,this g]
  obtain⟨f,rfl⟩:∃k,f=k+1:=⟨f-1,by omega⟩
  obtain⟨g,rfl⟩:∃k,g=k+1:=⟨g-1,by omega⟩
  rw[Gg,Gg,zg (by omega),zg (by omega)]
 |succ z ih=>
  obtain⟨q,j⟩:=ih;have n:∀(s:ByteArray) (deep ahead f g:Nat),s.size<=z+1->2*s.size<=f->2*s.size<=g->qH D M f s deep ahead=qH D M g s deep ahead:=by
   intro s deep ahead f g hz h i;by_cases e:s.size=0
   ·exact q s deep ahead f g (by omega) h i
   obtain⟨f,rfl⟩:∃k,f=k+1:=⟨f-1,by omega⟩
   obtain⟨g,rfl⟩:∃k,g=k+1:=⟨g-1,by omega⟩
   rw[qH,qH];have c:=tI s (aG D deep) (aH M ahead);generalize hd s (aG D deep) (aH M ahead)=H at*;by_cases b:H.2.2.2≠0
   ·rw[zg b,zg b]
   have c:=c (zC.1 b);by_cases l:H.1=false
   ·rw[zf b,zf b,zg l,zg l]
   have r:=c.2.2.2 (by simpa using l);have p:(s.extract H.2.1 (H.2.1+H.2.2.1)).size=H.2.2.1:=by rw[ar _ _ _ c.2.1];omega
   rw[j (s.extract H.2.1 (H.2.1+H.2.2.1)) (deep+1) (ahead+1) f g (by omega) (by omega) (by omega)]
  refine⟨n,fun s deep ahead f g hz h i=> ?_⟩;by_cases e:s.size=0
  ·exact j s deep ahead f g (by omega) h i
  obtain⟨f,rfl⟩:∃k,f=k+1:=⟨f-1,by omega⟩
  obtain⟨g,rfl⟩:∃k,g=k+1:=⟨g-1,by omega⟩
  rw[Gg,Gg,zf e,zf e,n s deep ahead f g hz (by omega) (by omega)];have c:=nw D M g s deep ahead;generalize qH D M g s deep ahead=R at*;by_cases b:R.e≠0
  ·rw[zg b,zg b]
  have c:=c (zC.1 b);have p:(s.extract R.size s.size).size=s.size-R.size:=ar _ _ _ (ze _);rw[j (s.extract R.size s.size) deep (ahead+R.items) f g (by omega) (by omega) (by omega)]
def bs (D M:Int)(s:ByteArray)(deep ahead:Nat):Rd:=qH D M (2*s.size+2) s deep ahead
def cR (D M:Int)(s:ByteArray)(deep ahead:Nat):LQ:=Gg D M (2*s.size+1) s deep ahead
theorem dT (D M:Int)(s:ByteArray)(deep ahead:Nat)(H:Bool×Nat×Nat×Int)(e:hd s (aG D deep) (aH M ahead)=H):bs D M s deep ahead=
 if H.2.2.2≠0 then Rd.bad H.2.2.2
 else if H.1=false then⟨.mk (s.extract H.2.1 (H.2.1+H.2.2.1)) false [],H.2.1+H.2.2.1,1,0⟩
 else if(cR D M (s.extract H.2.1 (H.2.1+H.2.2.1)) (deep+1) (ahead+1)).e≠0 then Rd.bad (cR D M (s.extract H.2.1 (H.2.1+H.2.2.1)) (deep+1) (ahead+1)).e
 else⟨.mk ByteArray.empty true (cR D M (s.extract H.2.1 (H.2.1+H.2.2.1)) (deep+1) (ahead+1)).xs,H.2.1+H.2.2.1,1+(cR D M (s.extract H.2.1 (H.2.1+H.2.2.1)) (deep+1) (ahead+1)).items,0⟩:=by
 subst e;rw[bs,qH];have c:=tI s (aG D deep) (aH M ahead);generalize hd s (aG D deep) (aH M ahead)=H at*;by_cases b:H.2.2.2≠0
 ·rw[zg b,zg b]
 have c:=c (zC.1 b);by_cases d:H.1=false
 ·rw[zf b,zf b,zg d,zg d]
 have h:(s.extract H.2.1 (H.2.1+H.2.2.1)).size=H.2.2.1:=by rw[ar _ _ _ c.2.1];omega
 rw[cR,(DU D M s.size).2 (s.extract H.2.1 (H.2.1+H.2.2.1)) (deep+1) (ahead+1) (2*s.size+1) (2*(s.extract H.2.1 (H.2.1+H.2.2.1)).size+1) (by omega) (by omega) (by omega)]
theorem jA (D M:Int)(s:ByteArray)(deep ahead:Nat)(h:s.size=0):cR D M s deep ahead=⟨[],0,0⟩:=by rw[cR,Gg,zg h]
theorem ir (D M:Int)(s:ByteArray)(deep ahead:Nat)(h:s.size≠0)(R:Rd)(d:bs D M s deep ahead=R):cR D M s deep ahead=
 if R.e≠0 then LQ.bad (within R.e)
 else if(cR D M (s.extract R.size s.size) deep (ahead+R.items)).e≠0 then LQ.bad (cR D M (s.extract R.size s.size) deep (ahead+R.items)).e
 else⟨R.x::(cR D M (s.extract R.size s.size) deep (ahead+R.items)).xs,R.items+(cR D M (s.extract R.size s.size) deep (ahead+R.items)).items,0⟩:=by
 subst d;rw[cR,Gg,zf h,bs,(DU D M s.size).1 s deep ahead (2*s.size) (2*s.size+2) (by omega) (by omega) (by omega)];have c:=nw D M (2*s.size+2) s deep ahead;generalize qH D M (2*s.size+2) s deep ahead=R at*;by_cases b:R.e≠0
 ·rw[zg b,zg b]
 have c:=c (zC.1 b);have e:(s.extract R.size s.size).size=s.size-R.size:=ar _ _ _ (ze _);rw[cR,(DU D M s.size).2 (s.extract R.size s.size) deep (ahead+R.items) (2*s.size) (2*(s.extract R.size s.size).size+1) (by omega) (by omega) (by omega)]
mutual
def It.lay :It->Ty->List UInt8
 | .mk tx _ s,t=>if t.kind=1 then jz (mL tx.data.toList) t.size.toNat else if t.kind=2 then tx.data.toList else if t.kind=3 then dx tx.size++tx.data.toList
  else if t.kind=4 then dx s.length++cy s t 0 else cy s t 0
def cy :List It->Ty->Nat->List UInt8
 | [],_,_=> []
 |x::xs,t,i=>x.lay (t.at i)++cy xs t (i+1)
end
theorem tJ (a b:List It)(t:Ty)(i:Nat):cy (a++b) t i=cy a t i++cy b t (i+a.length):=by
 induction a generalizing i with
 |nil=>simp[cy]
 |cons x xs ih=>simp only[zT,cy,ih,zx,zB];rw[show i+1+xs.length=i+(xs.length+1)from by omega]
theorem CP {s:List It}{k:Nat}{t:Ty}(h:k<s.length):cy (s.take (k+1)) t 0=cy (s.take k) t 0++s[k].lay (t.at k):=by
 rw[fo s k h,tJ];simp[cy,yF (Yy h)]
mutual
def Ty.full :Ty->Bool
 | .mk _ _ l t=>decide (t=0)&&cc l
def cc :List Ty->Bool
 | []=>true
 |x::xs=>x.full&&cc xs
end
def Ty.flat (t:Ty):Bool:=t.may&&cc t.sub
structure Us where
 e:Int
 x:It
 n:Nat
 q:List UInt8
structure k6 where
 e:Int
 xs:List It
 n:Nat
 q:List UInt8
def Us.bad (e:Int)(n:Nat)(q:List UInt8):Us:=⟨e,kG,n,q⟩
def k6.cons (x:It)(r:k6):k6:=⟨r.e,x::r.xs,r.n,r.q⟩
def k6.list (r:k6):Us:=⟨r.e,.mk ⟨#[]⟩ true r.xs,r.n,r.q⟩
def uJ (f:Nat->List UInt8->Us):Nat->Nat->List UInt8->k6
 |0,n,r=>⟨0,[],n,r⟩
 |c+1,n,r=>if(f n r).e≠0 then⟨(f n r).e,[(f n r).x],(f n r).n,(f n r).q⟩else(uJ f c (f n r).n (f n r).q).cons (f n r).x
mutual
def Ty.rd (M:Int):Ty->Nat->List UInt8->Us
 | .mk k z l ta,n,r=>
  if M<=n then .bad 4 n r
  else if k=1 then(if r.length<z.toNat then .bad 2 (n+1) r else⟨0,.mk ⟨(cJ (dg (r.take z.toNat))).toArray⟩ false [],n+1,r.drop z.toNat⟩)
  else if k=2 then(if r.length<z.toNat then .bad 2 (n+1) r else⟨0,.mk ⟨(r.take z.toNat).toArray⟩ false [],n+1,r.drop z.toNat⟩)
  else if k=3 then
   (if(au r).2.2≠0 then .bad (au r).2.2 (n+1) r else if z<(au r).1 then .bad 5 (n+1) r
   else if(r.drop (au r).2.1).length<(au r).1 then .bad 2 (n+1) (r.drop (au r).2.1)
   else⟨0,.mk ⟨((r.drop (au r).2.1).take (au r).1).toArray⟩ false [],n+1,(r.drop (au r).2.1).drop (au r).1⟩)
  else if k=4 then
   (if(au r).2.2≠0 then .bad (au r).2.2 (n+1) r else if z<(au r).1 then .bad 5 (n+1) r
   else(rdF M l (au r).1 (n+1) (r.drop (au r).2.1)).list)
  else(ox M l ((l.length:Int)-ta).toNat (n+1) r).list
def rdF (M:Int):List Ty->Nat->Nat->List UInt8->k6
 | [],_,n,r=>⟨0,[],n,r⟩
 |x::_,c,n,r=>uJ (fun n r=>x.rd M n r) c n r
def ox (M:Int):List Ty->Nat->Nat->List UInt8->k6
 | [],_,n,r=>⟨0,[],n,r⟩
 |x::xs,m,n,r=>if m=0/\r= []then⟨0,[],n,r⟩
  else if(x.rd M n r).e≠0 then⟨(x.rd M n r).e,[(x.rd M n r).x],(x.rd M n r).n,(x.rd M n r).q⟩
  else(ox M xs (m-1) (x.rd M n r).n (x.rd M n r).q).cons (x.rd M n r).x
end
theorem aae (l:List UInt8)(h:ia l=false):cJ (mL l)=l:=by
 cases l with
 |nil=>simp[mL,dg,dq]
 |cons b t=>
  apply Ge;have:(b==0)=false:=h;intro e;have c:b=0:=by simpa using e
  rw[c]at this;simp at this
theorem wJ {s:List It}(h:dj s=true):∀x∈s,x.right=true:=by
 induction s with
 |nil=>simp
 |cons y ys ih=>
  simp only[dj,zv]at h;intro x hx;rcases yj.1 hx with rfl|hx
  ·exact h.1
  exact ih h.2 x hx
theorem lT {k:Int}{l:List Ty}{b:Int}(h:(Ty.mk k z l b).full=true):b=0/\cc l=true:=by
 simpa only[Ty.full,zv,zU]using h
def Rg (t:Ty)(x:It)(q:List UInt8):Prop:=t.kind=5->(x.sub.length<t.sub.length->q= [])/\∀j (hj:j<x.sub.length) (mO:j<t.sub.length),((t.sub.length:Int)-t.tail).toNat<=j->(x.sub[j]).lay (t.sub[j])≠ []
theorem ny {t:Ty}{x:It}(h:t.full=true)(hi:x.dF t=true)(q:List UInt8):Rg t x q:=by
 intro d;obtain⟨k,z,l,p⟩:=t;obtain⟨o,b,s⟩:=x;obtain⟨rfl,_⟩:=lT h;simp only[Ty.LB]at d;subst d;simp[It.dF,rU]at hi;obtain⟨⟨⟨_,m⟩,n⟩,_⟩:=hi;refine⟨fun c=> ?_,fun j e i c=> ?_⟩
 ·simp only[It.gK,Ty.gK]at c;omega
 simp only[It.gK,Ty.gK,Ty.DM]at e i c;omega
theorem LR {a t:Ty}{f:Nat->List UInt8->Us}:∀(s:List It) (i n:Nat) (q:List UInt8),(∀j,t.at (i+j)=a)->(∀x∈s,∀(n:Nat) (q:List UInt8),(n:Int)+x.count<=M->f n (x.lay a++q)=⟨0,x,n+x.count,q⟩)->(n:Int)+aC s<=M->
 uJ f s.length n (cy s t i++q)=⟨0,s,n+aC s,q⟩
 | [],i,n,q,_,_,_=>by simp[uJ,cy,aC]
 |x::xs,i,n,q,ha,hf,hM=>by
  simp only[aC]at hM;have b:=ha 0;rw[xa]at b;have hx:=hf x (by simp) n (cy xs t (i+1)++q) (by omega);rw[zx,cy,b,zB,uJ,hx];simp only[YC,yV,xO];rw[LR xs (i+1) (n+x.count) q (fun j=>by have:=ha (j+1);rwa [show i+(j+1)=i+1+j from by omega]at this) (fun y c=>hf y (by simp[c])) (by omega)];simp[k6.cons,aC,yd]
theorem LS {t:Ty}:∀(b:List Ty) (s:List It) (m i n:Nat) (q:List UInt8),(∀j (h:j<b.length),t.at (i+j)=b[j])->m<=s.length->s.length<=b.length->(s.length<b.length->q= [])->
 (∀j (c:j<s.length) (d:j<b.length),m<=j->(s[j]).lay (b[j])≠ [])->
 (∀j (c:j<s.length) (d:j<b.length),∀(n:Nat) (q:List UInt8),(n:Int)+(s[j]).count<=M->(b[j]).rd M n ((s[j]).lay (b[j])++q)=⟨0,s[j],n+(s[j]).count,q⟩)->(n:Int)+aC s<=M->
 ox M b m n (cy s t i++q)=⟨0,s,n+aC s,q⟩
 | [],s,m,i,n,q,_,_,hs,_,_,_,_=>by
  obtain rfl:s= []:=zk (by simpa using hs);simp[ox,cy,aC]
 |a::b,[],m,i,n,q,_,hm,_,hq,_,_,_=>by
  have k:m=0:=by simpa using hm
  have o:=hq (by simp);subst k o;simp[ox,cy,aC]
 |a::b,x::xs,m,i,n,q,ha,hm,hs,hq,bX,hf,hM=>by
  simp only[aC]at hM;have e:=ha 0 (by simp);rw[xa]at e;have hx:=hf 0 (by simp) (by simp) n (cy xs t (i+1)++q) (by simp only[yQ];omega);simp only[yQ]at hx e;rw[cy,e,zB,ox,hx];rw[zf (by
   rintro⟨k,l⟩;have:=bX 0 (by simp) (by simp) (by omega);simp only[yQ]at this;exact this (List.append_eq_nil_iff.1 l).1)]
  simp only[YC,yV,xO];rw[LS b xs (m-1) (i+1) (n+x.count) q (fun j c=>by have:=ha (j+1) (by simpa using c);simpa[show i+(j+1)=i+1+j from by omega]using this) (by simp at hm;omega) (by simpa using hs) (fun h=>hq (by simpa using h))
   (fun j c d h=>by have:=bX (j+1) (by simpa using c) (by simpa using d) (by omega);simpa using this) (fun j c d=>by have:=hf (j+1) (by simpa using c) (by simpa using d);simpa using this) (by omega)]
  simp[k6.cons,aC,yd]
theorem LU {l:List Ty}{c:ByteArray}{b:Bool}(h:rU (.mk 1 z l d) c b m=true):b=false/\(c.size:Int)<=z/\ia c.data.toList=false:=by
 simp[rU]at h;exact⟨h.1.1,zX h.1.2,h.2⟩
theorem DV {l:List Ty}{c:ByteArray}{b:Bool}(h:rU (.mk 2 z l d) c b m=true):b=false/\(c.size:Int)=z:=by
 simp[rU]at h;exact⟨h.1,zX h.2⟩
theorem sD {l:List Ty}{c:ByteArray}{b:Bool}(h:rU (.mk 3 z l d) c b m=true):b=false/\(c.size:Int)<=z:=by
 simp[rU]at h;exact⟨h.1,zX h.2⟩
theorem Gh {l:List Ty}{c:ByteArray}{b:Bool}(h:rU (.mk 4 z l d) c b m=true):b=true/\(m:Int)<=z:=by
 simp[rU]at h;exact⟨h.1,zX h.2⟩
theorem qI {l:List Ty}{c:Int}{d:ByteArray}{b:Bool}(h:rU (.mk 5 z l c) d b m=true):b=true/\m<=l.length/\(l.length:Int)-c<=m:=by
 simp[rU]at h;exact⟨h.1.1,zX h.1.2,zX h.2⟩
theorem vu (c:ByteArray)(b:Bool)(s:List It)(z:Int)(l:List Ty)(d:Int):(It.mk c b s).lay (.mk 1 z l d)=jz (mL c.data.toList) z.toNat:=rfl
theorem vw (c:ByteArray)(b:Bool)(s:List It)(z:Int)(l:List Ty)(d:Int):(It.mk c b s).lay (.mk 2 z l d)=c.data.toList:=rfl
theorem oy (c:ByteArray)(b:Bool)(s:List It)(z:Int)(l:List Ty)(d:Int):(It.mk c b s).lay (.mk 3 z l d)=dx c.size++c.data.toList:=rfl
theorem qJ (d:ByteArray)(b:Bool)(s:List It)(z:Int)(l:List Ty)(c:Int):(It.mk d b s).lay (.mk 4 z l c)=dx s.length++cy s (.mk 4 z l c) 0:=rfl
theorem nz (d:ByteArray)(b:Bool)(s:List It)(z:Int)(l:List Ty)(c:Int):(It.mk d b s).lay (.mk 5 z l c)=cy s (.mk 5 z l c) 0:=rfl
theorem LV (h:M<=n)(t:Ty)(r:List UInt8):t.rd M n r= .bad 4 n r:=by obtain⟨k,z,l,b⟩:=t;rw[Ty.rd,zg h]
theorem JJ (h:¬M<=n)(z:Int)(l:List Ty)(b:Int)(r:List UInt8):(Ty.mk 1 z l b).rd M n r=if r.length<z.toNat then .bad 2 (n+1) r else⟨0,.mk ⟨(cJ (dg (r.take z.toNat))).toArray⟩ false [],n+1,r.drop z.toNat⟩:=by rw[Ty.rd,zf h];rfl
theorem JK (h:¬M<=n)(z:Int)(l:List Ty)(b:Int)(r:List UInt8):(Ty.mk 2 z l b).rd M n r=if r.length<z.toNat then .bad 2 (n+1) r else⟨0,.mk ⟨(r.take z.toNat).toArray⟩ false [],n+1,r.drop z.toNat⟩:=by rw[Ty.rd,zf h];rfl
theorem wK (h:¬M<=n)(z:Int)(l:List Ty)(b:Int)(r:List UInt8):(Ty.mk 3 z l b).rd M n r=if(au r).2.2≠0 then .bad (au r).2.2 (n+1) r else if z<(au r).1 then .bad 5 (n+1) r
 else if(r.drop (au r).2.1).length<(au r).1 then .bad 2 (n+1) (r.drop (au r).2.1)
 else⟨0,.mk ⟨((r.drop (au r).2.1).take (au r).1).toArray⟩ false [],n+1,(r.drop (au r).2.1).drop (au r).1⟩:=by rw[Ty.rd,zf h];rfl
theorem DW (h:¬M<=n)(z:Int)(l:List Ty)(b:Int)(r:List UInt8):(Ty.mk 4 z l b).rd M n r=if(au r).2.2≠0 then .bad (au r).2.2 (n+1) r else if z<(au r).1 then .bad 5 (n+1) r
 else(rdF M l (au r).1 (n+1) (r.drop (au r).2.1)).list:=by rw[Ty.rd,zf h];rfl
theorem vx (h:¬M<=n)(z:Int)(l:List Ty)(b:Int)(r:List UInt8):(Ty.mk 5 z l b).rd M n r=(ox M l ((l.length:Int)-b).toNat (n+1) r).list:=by rw[Ty.rd,zf h];rfl
theorem k7 :∀(s:List It) (t:Ty) (i:Nat),dS s t i=true->∀j (h:j<s.length),(s[j]).dF (t.at (i+j))=true
 | [],_,_,_,j,h=>by simp at h
 |x::xs,t,i,hi,0,h=>by simp only[dS,zv]at hi;simpa using hi.1
 |x::xs,t,i,hi,j+1,h=>by
  simp only[dS,zv]at hi;have:=k7 xs t (i+1) hi.2 j (by simpa using h);rw[show i+(j+1)=i+1+j from by omega];simpa using this
theorem Gi {s:List Ty}(h:cc s=true):∀k (b:k<s.length),(s[k]).full=true:=by
 induction s with
 |nil=>intro k b;simp at b
 |cons x xs ih=>
  simp only[cc,zv]at h;intro k b;cases k with
  |zero=>exact h.1
  |succ k=>exact ih h.2 k (by simpa using b)
theorem Rh (M:Int)(hM:M<=1024)(x:It):∀(t:Ty) (n:Nat) (q:List UInt8),t.right=true->cc t.sub=true->Rg t x q->x.dF t=true->x.right=true->(n:Int)+x.count<=M->
 t.rd M n (x.lay t++q)=⟨0,x,n+x.count,q⟩:=by
 induction x using It.ind with
 |h tx b s ih=>
  intro t n q hr E vD hi hx D;obtain⟨k,z,l,d⟩:=t;obtain⟨bG,W⟩:=jJ hr;obtain⟨o,Pz⟩:=ni hx;have X:=wJ Pz;have m:¬M<=(n:Int):=by simp only[It.count]at D;omega
  simp only[It.dF,zv]at hi;obtain⟨c,cV⟩:=hi;have L:=k7 s _ 0 cV;simp only[zK]at L;simp only[Ty.gK]at E;rcases kq bG with⟨rfl,hs,A,N⟩|⟨rfl,B,H,A,N⟩|⟨rfl,B,H,A,N⟩|⟨rfl,B,H,A,N⟩|⟨rfl,B,H,h5,h6⟩
  ·replace c:=LU c;obtain⟨rfl,hz,Br⟩:=c;have u:s= []:=by simpa[formed]using o
   subst u;have S:=DE tx.data.toList;rw[aa]at S;have J:tx.size<=z.toNat:=by omega
   have B3:mL tx.data.toList<2^(8*z.toNat):=zJ S (yu (by omega) (by omega));rw[vu,JJ m];rw[zf (by rw[zh,bd];omega),ZW (bd _ _),ZX (bd _ _),QZ _ _ B3,aae _ Br,jD];simp[It.count,aC]
  ·replace c:=DV c;obtain⟨rfl,hz⟩:=c;have u:s= []:=by simpa[formed]using o
   subst u;have J:tx.data.toList.length=z.toNat:=by rw[aa];omega
   rw[vw,JK m];rw[zf (by rw[zh];omega),ZW J,ZX J,jD];simp[It.count,aC]
  ·replace c:=sD c;obtain⟨rfl,hz⟩:=c;have u:s= []:=by simpa[formed]using o
   subst u;have R:=wI tx.size (tx.data.toList++q) (by omega);have C:(dx tx.size++(tx.data.toList++q)).drop (dx tx.size).length=tx.data.toList++q:=ZX rfl;rw[oy,zB,wK m];rw[R];simp only[C];rw[zf (by simp),zf (by omega),zf (by rw[zh,aa];omega),ZW (aa tx),ZX (aa tx),jD];simp[It.count,aC]
  ·replace c:=Gh c;obtain⟨rfl,hz⟩:=c;have K:tx=⟨#[]⟩:=by
    have:tx.size=0:=by simpa[formed]using o
    exact aE (by simp[zk ((aa tx).trans this)])
   subst K;obtain⟨a,rfl⟩:=Yz.1 A;have w:∀j,(Ty.mk 4 z [a] d).at j=a:=fun j=>by unfold Ty.at;simp
   have F:a.right=true:=by simpa[bS]using W
   have p:a.full=true:=by simpa[cc]using E
   have R:=wI s.length (cy s (.mk 4 z [a] d) 0++q) (by omega);have C:(dx s.length++(cy s (.mk 4 z [a] d) 0++q)).drop (dx s.length).length=cy s (.mk 4 z [a] d) 0++q:=ZX rfl;simp only[It.count]at D;have I:=LR (M:=M) (a:=a) (t:= .mk 4 z [a] d) (f:=fun n r=>a.rd M n r) s 0 (n+1) q (fun j=>w _) (fun x i n q O=>by
    obtain⟨j,y,rfl⟩:=yS i;have e:=L j y;rw[w]at e;obtain⟨ak,az,al,at_⟩:=a;exact ih _ i _ n q F (lT p).2 (ny p e q) e (X _ i) O) (by omega)
   rw[qJ,zB,DW m];rw[R];simp only[C,rdF];rw[zf (by simp),zf (by omega),I];simp[k6.list,It.count,yd]
  replace c:=qI c;obtain⟨rfl,cg,cC⟩:=c;have K:tx=⟨#[]⟩:=by
   have:tx.size=0:=by simpa[formed]using o
   exact aE (by simp[zk ((aa tx).trans this)])
  subst K;have w:∀j (h:j<l.length),(Ty.mk 5 z l d).at (0+j)=l[j]:=fun j h=>by unfold Ty.at;simp[h]
  obtain⟨U,Z⟩:=vD rfl;simp only[It.gK,Ty.gK,Ty.DM]at U Z;simp only[It.count]at D;have I:=LS (M:=M) (t:= .mk 5 z l d) l s ((l.length:Int)-d).toNat 0 (n+1) q w (by omega) cg U Z (fun j y G n q O=>by
   have i:=zA y;have e:=L j y;have Y:=w j G;rw[zK]at Y;rw[Y]at e;have p:=Gi E j G;have F:=eK W j G;generalize l[j]=a at*;obtain⟨ak,az,al,at_⟩:=a;exact ih _ i _ n q F (lT p).2 (ny p e q) e (X _ i) O) (by omega)
  rw[nz,vx m];rw[I];simp[k6.list,It.count,yd]
structure Vf (M:Int)(t:Ty)(n:Nat)(r:List UInt8)(R:Us):Prop where
 dF:R.x.dF t=true
 right:R.x.right=true
 num:R.n=n+R.x.count
 many:(R.n:Int)<=M
 lay:r=R.x.lay t++R.q
 deep:R.x.deep<=t.deep
structure Xw (M:Int)(t:Ty)(i n:Nat)(r:List UInt8)(R:k6):Prop where
 dF:dS R.xs t i=true
 right:dj R.xs=true
 num:R.n=n+aC R.xs
 many:(R.n:Int)<=M
 lay:r=cy R.xs t i++R.q
theorem Gj {a t:Ty}{f:Nat->List UInt8->Us}(l:∀n r,(f n r).e=0->Vf M a n r (f n r)):∀(c i n:Nat) (r:List UInt8),(∀j,t.at (i+j)=a)->(n:Int)<=M->(uJ f c n r).e=0->
 Xw M t i n r (uJ f c n r)/\(uJ f c n r).xs.length=c/\cK (uJ f c n r).xs<=a.deep
 |0,i,n,r,_,hM,_=>⟨⟨rfl,rfl,by simp[uJ,aC],hM,by simp[uJ,cy]⟩,rfl,by simp[uJ,cK]⟩
 |c+1,i,n,r,ha,hM,h=>by
  rw[uJ]at h⊢;by_cases e:(f n r).e=0
  ·rw[zf (by simp[e])]at h⊢;have b:=l n r e;obtain⟨d,m,q⟩:=Gj l c (i+1) (f n r).n (f n r).q (fun j=>by have:=ha (j+1);rwa [show i+(j+1)=i+1+j from by omega]at this) b.many h;have k:=ha 0;rw[xa]at k;refine⟨⟨?_, ?_, ?_,d.many, ?_⟩,by simp[k6.cons,m], ?_⟩
   ·simp only[k6.cons,dS,k,b.dF,d.dF,Bool.and_self]
   ·simp only[k6.cons,dj,b.right,d.right,Bool.and_self]
   ·have p:=d.num;have o:=b.num;simp only[k6.cons,aC];omega
   ·simp only[k6.cons,cy,k,zB];rw[<-d.lay];exact b.lay
   simp only[k6.cons,cK];have:=b.deep;omega
  rw[zg (by simpa using e)]at h;exact absurd h e
theorem Gk {t:Ty}:∀(c:List Ty) (m i n:Nat) (r:List UInt8),(∀j (h:j<c.length),t.at (i+j)=c[j])->(∀a∈c,∀n r,(a.rd M n r).e=0->Vf M a n r (a.rd M n r))->(n:Int)<=M->m<=c.length->(ox M c m n r).e=0->
 Xw M t i n r (ox M c m n r)/\m<=(ox M c m n r).xs.length/\(ox M c m n r).xs.length<=c.length/\cK (ox M c m n r).xs<=dH c
 | [],m,i,n,r,_,_,hM,hm,_=>⟨⟨rfl,rfl,by simp[ox,aC],hM,by simp[ox,cy]⟩,by simpa[ox]using hm,by simp[ox],by simp[ox,cK]⟩
 |a::c,m,i,n,r,ha,hf,hM,hm,h=>by
  rw[ox]at h⊢;by_cases hz:m=0/\r= []
  ·rw[zg hz];obtain⟨rfl,rfl⟩:=hz;exact⟨⟨rfl,rfl,by simp[aC],hM,by simp[cy]⟩,by simp,by simp,by simp[cK]⟩
  rw[zf hz]at h⊢;by_cases k:(a.rd M n r).e=0
  ·rw[zf (by simp[k])]at h⊢;have d:=hf a (by simp) n r k;obtain⟨e,s,x,u⟩:=Gk c (m-1) (i+1) (a.rd M n r).n (a.rd M n r).q (fun j o=>by have:=ha (j+1) (by simpa using o);simpa[show i+(j+1)=i+1+j from by omega]using this) (fun b p=>hf b (by simp[p])) d.many (by simp at hm;omega) h;have l:=ha 0 (by simp);simp only[xa,yQ]at l;refine⟨⟨?_, ?_, ?_,e.many, ?_⟩,by simp only[k6.cons,zx];omega,by simp only[k6.cons,zx];omega, ?_⟩
   ·simp only[k6.cons,dS,l,d.dF,e.dF,Bool.and_self]
   ·simp only[k6.cons,dj,d.right,e.right,Bool.and_self]
   ·have w:=e.num;have q:=d.num;simp only[k6.cons,aC];omega
   ·simp only[k6.cons,cy,l,zB];rw[<-e.lay];exact d.lay
   simp only[k6.cons,cK,dH];have:=d.deep;omega
  rw[zg (by simpa using k)]at h;exact absurd h k
theorem Vg {l:List Ty}{e:Int}{b:ByteArray}(c:(b.size:Int)<=z)(d:ia b.data.toList=false):rU (.mk 1 z l e) b false m=true:=by
 show(!false&&decide ((b.size:Int)<=z)&& !ia b.data.toList)=true
 rw[d,zD c];rfl
theorem Vh {l:List Ty}{b:ByteArray}(c:(b.size:Int)=z):rU (.mk 2 z l d) b false m=true:=by
 show(!false&&decide ((b.size:Int)=z))=true
 rw[zD c];rfl
theorem N4 {l:List Ty}{b:ByteArray}(c:(b.size:Int)<=z):rU (.mk 3 z l d) b false m=true:=by
 show(!false&&decide ((b.size:Int)<=z))=true
 rw[zD c];rfl
theorem Ri {l:List Ty}{c:ByteArray}(b:(m:Int)<=z):rU (.mk 4 z l d) c true m=true:=by
 show(true&&decide ((m:Int)<=z))=true
 rw[zD b];rfl
theorem Rk {l:List Ty}{b:Int}{e:ByteArray}(c:m<=l.length)(d:(l.length:Int)-b<=m):rU (.mk 5 z l b) e true m=true:=by
 show(true&&decide (m<=l.length)&&decide ((l.length:Int)-b<=m))=true
 rw[zD c,zD d];rfl
theorem JL (n:Nat):ia (cJ n)=false:=by
 by_cases h:n=0
 ·subst h;rw[dq];rfl
 cases hl:cJ n with
 |nil=>rfl
 |cons b t=>
  have h1:=CN n h;rw[hl]at h1;show(b==0)=false
  exact zl.2 (by simpa using h1)
theorem N5 (M:Int)(J:M<=1024)(t:Ty):∀(n:Nat) (r:List UInt8),t.right=true->(t.rd M n r).e=0->Vf M t n r (t.rd M n r):=by
 induction t using Ty.ind with
 |h k z l ta ih=>
  intro n r G h;obtain⟨E,y⟩:=jJ G;by_cases d:M<=(n:Int)
  ·rw[LV d]at h;cases h
  rcases kq E with⟨rfl,L,m,s⟩|⟨rfl,o,q,m,s⟩|⟨rfl,o,q,m,s⟩|⟨rfl,o,q,m,s⟩|⟨rfl,o,q,K,I⟩
  ·rw[JJ d]at h⊢;by_cases c:r.length<z.toNat
   ·rw[zg c]at h;cases h
   rw[zf c];have w:=jG (r.take z.toNat);have i:(r.take z.toNat).length=z.toNat:=by rw[zQ];omega
   rw[i]at w;have N:=gC z.toNat _ w;refine⟨?_,rfl,by simp[It.count,aC],by simp only;omega, ?_, ?_⟩
   ·simp only[It.dF,dS,Zq];exact Vg (by rw[bJ];omega) (by simpa using JL _)
   ·rw[vu];simp only;have e:=Q4 (r.take z.toNat);rw[i]at e;rw[LO,e,zE]
   simp[It.deep,cK,Ty.deep]
  ·rw[JK d]at h⊢;by_cases c:r.length<z.toNat
   ·rw[zg c]at h;cases h
   rw[zf c];have i:(r.take z.toNat).length=z.toNat:=by rw[zQ];omega
   refine⟨?_,rfl,by simp[It.count,aC],by simp only;omega, ?_, ?_⟩
   ·simp only[It.dF,dS,Zq];exact Vh (by rw[bJ];omega)
   ·rw[vw];simp only;rw[zE]
   simp[It.deep,cK,Ty.deep]
  ·rw[wK d]at h⊢;by_cases b:(au r).2.2≠0
   ·rw[zg b]at h;exact absurd h b
   rw[zf b]at h⊢;by_cases hz:z<((au r).1:Int)
   ·rw[zg hz]at h;cases h
   rw[zf hz]at h⊢;by_cases c:(r.drop (au r).2.1).length<(au r).1
   ·rw[zg c]at h;cases h
   rw[zf c];obtain⟨D,F,p,A⟩:=iN r (au r).1 (au r).2.1 (by rw[<-zC.1 b]);generalize au r=C at*;have i:((r.drop C.2.1).take C.1).length=C.1:=by rw[zQ];omega
   refine⟨?_,rfl,by simp[It.count,aC],by simp only;omega, ?_, ?_⟩
   ·simp only[It.dF,dS,Zq];exact N4 (by rw[bJ];omega)
   ·rw[oy];simp only;rw[show(⟨((r.drop C.2.1).take C.1).toArray⟩:ByteArray).size=C.1 from by rw[bJ,i],<-p,zB,zE,zE]
   simp[It.deep,cK,Ty.deep]
  ·rw[DW d]at h⊢;by_cases b:(au r).2.2≠0
   ·rw[zg b]at h;exact absurd h b
   rw[zf b]at h⊢;by_cases hz:z<((au r).1:Int)
   ·rw[zg hz]at h;cases h
   rw[zf hz]at h⊢;obtain⟨D,F,p,A⟩:=iN r (au r).1 (au r).2.1 (by rw[<-zC.1 b]);generalize au r=C at*;obtain⟨a,rfl⟩:=Yz.1 m;have u:∀j,(Ty.mk 4 z [a] ta).at j=a:=fun j=>by unfold Ty.at;simp
   have B:a.right=true:=by simpa[bS]using y
   simp only[rdF,k6.list]at h⊢;obtain⟨g1,g2,g3⟩:=Gj (M:=M) (a:=a) (t:= .mk 4 z [a] ta) (fun n r h=>ih a (by simp) n r B h) C.1 0 (n+1) (r.drop C.2.1) (fun j=>u _) (by omega) h;generalize uJ (fun n r=>a.rd M n r) C.1 (n+1) (r.drop C.2.1)=R at*;refine⟨?_, ?_, ?_,g1.many, ?_, ?_⟩
   ·simp only[It.dF,g1.dF,Zq];exact Ri (by rw[g2];omega)
   ·simp[It.right,g1.right,formed,ByteArray.size]
   ·simp only[It.count,g1.num];omega
   ·rw[qJ,zB,<-g1.lay,g2,<-p,zE]
   simp only[It.deep,Ty.deep,dH];omega
  rw[vx d]at h⊢;have u:∀j (h:j<l.length),(Ty.mk 5 z l ta).at (0+j)=l[j]:=fun j h=>by unfold Ty.at;simp[h]
  simp only[k6.list]at h⊢;obtain⟨g1,g2,g3,g4⟩:=Gk (M:=M) (t:= .mk 5 z l ta) l ((l.length:Int)-ta).toNat 0 (n+1) r u (fun a x n r h=>by
   obtain⟨j,H,rfl⟩:=yS x;exact ih _ x n r (eK y j H) h) (by omega) (by omega) h
  generalize ox M l ((l.length:Int)-ta).toNat (n+1) r=R at*;refine⟨?_, ?_, ?_,g1.many, ?_, ?_⟩
  ·simp only[It.dF,g1.dF,Zq];exact Rk g3 (by omega)
  ·simp[It.right,g1.right,formed,ByteArray.size]
  ·simp only[It.count,g1.num];omega
  ·rw[nz];exact g1.lay
  simp only[It.deep,Ty.deep];omega
def iu (t:Ty)(x:It)(M:Int):Int:=if t.flat=false then 1 else if ep t x≠0 then ep t x else if M<x.count then 4 else 0
def mn (t:Ty)(x:It)(M:Int):ByteArray×Int:=if iu t x M=0 then(⟨(x.lay t).toArray⟩,0)else(⟨#[]⟩,iu t x M)
def oS (t:Ty)(s:ByteArray)(M:Int):Us:=t.rd (min M 1024) 0 s.data.toList
def dk (t:Ty)(s:ByteArray)(M:Int):Int×It×Nat:=if t.flat=false then(1,kG,0)else if(oS t s M).e≠0 then((oS t s M).e,kG,0)else(0,(oS t s M).x,s.size-(oS t s M).q.length)
def jL (t:Ty)(s:ByteArray)(M:Int):Int×It:=if(dk t s M).1≠0 then((dk t s M).1,kG)else if(dk t s M).2.2<s.size then(3,kG)else(0,(dk t s M).2.1)
mutual
def Ty.low :Ty->Int
 | .mk k z l _=>if k=1\/k=2 then z else if k=3\/k=4 then 1 else aej l
def aej :List Ty->Int
 | []=>0
 |x::xs=>x.low+aej xs
end
theorem jM {t:Ty}(h:t.flat=true):t.may=true/\t.right=true/\t.count<=64/\t.deep<=8/\cc t.sub=true:=by
 simp only[Ty.flat,zv]at h;obtain⟨b,d,c⟩:=QV h.1;exact⟨h.1,c,b,d,h.2⟩
theorem sE {t:Ty}{x:It}(h:ep t x=0):t.may=true/\x.may=true/\x.dF t=true:=by
 unfold ep at h;cases h1:t.may<;>cases h2:x.may<;>cases h3:x.dF t<;>simp_all
theorem aaf {t:Ty}{x:It}(b:t.may=true)(d:x.may=true)(c:x.dF t=true):ep t x=0:=by
 unfold ep;simp[b,d,c]
theorem tK {x:It}(h:x.may=true):x.right=true/\x.deep<=16/\x.count<=1024:=by
 simpa only[It.may,zv,zU,and_assoc]using h
theorem Rl {x:It}(b:x.right=true)(d:x.deep<=16)(c:x.count<=1024):x.may=true:=by
 simp only[It.may,zv,zU];exact⟨⟨b,d⟩,c⟩
theorem sF {t:Ty}{x:It}(h:iu t x M=0):t.flat=true/\ep t x=0/\(x.count:Int)<=M:=by
 unfold iu at h;cases h1:t.flat with
 |false=>rw[zg h1]at h;cases h
 |true=>
  rw[zf (by simp[h1])]at h;by_cases b:ep t x≠0
  ·rw[zg b]at h;exact absurd h b
  rw[zf b]at h;by_cases c:M<x.count
  ·rw[zg c]at h;cases h
  exact⟨rfl,zC.1 b,by omega⟩
theorem Gl (t:Ty)(s:ByteArray)(M:Int)(h:(dk t s M).1=0):iu t (dk t s M).2.1 M=0/\(dk t s M).2.2<=s.size/\(dk t s M).2.1.lay t=s.data.toList.take (dk t s M).2.2:=by
 unfold dk at h⊢;cases h1:t.flat with
 |false=>rw[zg h1]at h;cases h
 |true=>
  rw[zf (by simp[h1])]at h⊢;by_cases c:(oS t s M).e≠0
  ·rw[zg c]at h;exact absurd h c
  rw[zf c];obtain⟨i,d,j,n,m⟩:=jM h1;have b:=N5 (min M 1024) (by omega) t 0 s.data.toList d (zC.1 c);change Vf (min M 1024) t 0 s.data.toList (oS t s M)at b
  generalize oS t s M=R at*;have e:=yi List.length b.lay;rw[zh,aa]at e;have l:=b.many;have k:=b.num;have hd:=b.deep;refine⟨?_,by simp only;omega, ?_⟩
  ·unfold iu;simp only;rw[zf (by simp[h1]),aaf i (Rl b.right (by omega) (by omega)) b.dF,zf (by simp),zf (by omega)]
  simp only;rw[b.lay,show s.size-R.q.length=(R.x.lay t).length from by omega,ZW rfl]
theorem JM (t:Ty)(s:ByteArray)(M:Int)(h:(jL t s M).1=0):iu t (jL t s M).2 M=0/\(jL t s M).2.lay t=s.data.toList:=by
 unfold jL at h⊢;by_cases b:(dk t s M).1≠0
 ·rw[zg b]at h;exact absurd h b
 rw[zf b]at h⊢;by_cases c:(dk t s M).2.2<s.size
 ·rw[zg c]at h;cases h
 rw[zf c];obtain⟨d,a2,a3⟩:=Gl t s M (zC.1 b);refine⟨d, ?_⟩;rw[a3,zw (by rw[aa];omega)]
def gS (xs:List It):It:= .mk ByteArray.empty true xs
def fin (D M:Int)(s:ByteArray):List It->Nat->List (List It×Nat)->Nat->Nat->Rd
 |acc,en,[],at_,count=>
  if(cR D M (s.extract at_ en) 2 count).e≠0 then Rd.bad (cR D M (s.extract at_ en) 2 count).e
  else⟨gS (acc++(cR D M (s.extract at_ en) 2 count).xs),en,count+(cR D M (s.extract at_ en) 2 count).items,0⟩
 |acc,en,f::rest,at_,count=>
  if(cR D M (s.extract at_ en) (rest.length+3) count).e≠0 then Rd.bad (cR D M (s.extract at_ en) (rest.length+3) count).e
  else fin D M s (f.1++ [gS (acc++(cR D M (s.extract at_ en) (rest.length+3) count).xs)]) f.2 rest en (count+(cR D M (s.extract at_ en) (rest.length+3) count).items)
def N6 (D M:Int)(s:ByteArray)(acc:List It)(en:Nat)(rest:List (List It×Nat))(count:Nat)(R:LQ):Rd:=
 if R.e≠0 then Rd.bad R.e
 else match rest with
  | []=>⟨gS (acc++R.xs),en,count+R.items,0⟩
  |f::rest=>fin D M s (f.1++ [gS (acc++R.xs)]) f.2 rest en (count+R.items)
theorem wL (D M:Int)(s:ByteArray)(acc:List It)(b:Nat)(rest:List (List It×Nat))(at_ count:Nat):fin D M s acc b rest at_ count=N6 D M s acc b rest count (cR D M (s.extract at_ b) (rest.length+2) count):=by
 cases rest with
 |nil=>rw[fin];rfl
 |cons f rest=>rw[fin];rfl
theorem DX (s:ByteArray)(a b i j:Nat)(c:a+j<=b):(s.extract a b).extract i j=s.extract (a+i) (a+j):=by
 apply aE;rw[aq,aq,aq,List.take_drop,xx,xw,yF (by omega)]
theorem CQ (D M:Int)(s:ByteArray)(acc:List It)(c:Nat)(rest:List (List It×Nat))(count k:Nat)(x:It)(R R':LQ)(h:R=(if R'.e≠0 then LQ.bad R'.e else⟨x::R'.xs,k+R'.items,0⟩)):
 N6 D M s acc c rest count R=N6 D M s (acc++ [x]) c rest (count+k) R':=by
 subst h;unfold N6;by_cases b:R'.e≠0
 ·rw[zg b,zg b,zg (by exact b)];rfl
 rw[zf b,zf b,zf (by simp)];cases rest with
 |nil=>simp[yd]
 |cons f rest=>simp[yd]
theorem N7 (D M:Int):∀(z:Nat) (s:ByteArray) (deep ahead:Nat),s.size<=z->(cR D M s deep ahead).e≠2:=by
 intro z;induction z with
 |zero=>intro s deep ahead h;rw[jA _ _ _ _ _ (by omega)];simp
 |succ z ih=>
  intro s deep ahead h;by_cases d:s.size=0
  ·rw[jA _ _ _ _ _ d];simp
  rw[ir D M s deep ahead d _ rfl];have b:=nw D M (2*s.size+2) s deep ahead;change(bs D M s deep ahead).e=0->1<=(bs D M s deep ahead).size/\(bs D M s deep ahead).size<=s.size at b
  generalize bs D M s deep ahead=R at*;by_cases c:R.e≠0
  ·rw[zg c];show within R.e≠2
   unfold within;split<;>omega
  rw[zf c];have b:=b (zC.1 c);have i:(s.extract R.size s.size).size=s.size-R.size:=ar _ _ _ (ze _);have e:=ih (s.extract R.size s.size) deep (ahead+R.items) (by omega);split
  ·exact e
  simp
theorem Vi (D M:Int)(s:ByteArray)(acc:List It)(b:Nat)(rest:List (List It×Nat))(at_ count:Nat)(i:at_<b)(e:b<=s.size)(H:Bool×Nat×Nat×Int)
 (h:hd (s.extract at_ b) (aG D (rest.length+2)) (aH M count)=H) (c:H.2.2.2≠0):fin D M s acc b rest at_ count=Rd.bad (within H.2.2.2):=by
 have hz:(s.extract at_ b).size=b-at_:=ar _ _ _ e;have d:within H.2.2.2≠0:=by unfold within;split<;>simp_all
 rw[wL,ir D M _ _ _ (by omega) _ rfl,dT D M _ _ _ H h,zg c,zg (show(Rd.bad H.2.2.2).e≠0 from c)];unfold N6;rw[zg (show(LQ.bad (within (Rd.bad H.2.2.2).e)).e≠0 from d)];rfl
theorem Rm (D M:Int)(s:ByteArray)(acc:List It)(b:Nat)(rest:List (List It×Nat))(at_ count:Nat)(k:at_<b)(i:b<=s.size)(H:Bool×Nat×Nat×Int)
 (e:hd (s.extract at_ b) (aG D (rest.length+2)) (aH M count)=H) (d:H.2.2.2=0) (j:H.1=false):
 fin D M s acc b rest at_ count=fin D M s (acc++ [.mk (s.extract (at_+H.2.1) (at_+H.2.1+H.2.2.1)) false []]) b rest (at_+H.2.1+H.2.2.1) (count+1)/\at_+H.2.1+H.2.2.1<=b:=by
 have hz:(s.extract at_ b).size=b-at_:=ar _ _ _ i;have c:=tI (s.extract at_ b) (aG D (rest.length+2)) (aH M count);rw[e]at c;have c:=c d;refine⟨?_,by omega⟩;have h:bs D M (s.extract at_ b) (rest.length+2) count=⟨.mk ((s.extract at_ b).extract H.2.1 (H.2.1+H.2.2.1)) false [],H.2.1+H.2.2.1,1,0⟩:=by
  rw[dT D M _ _ _ H e,zf (show¬H.2.2.2≠0 by simp[d]),zg j]
 rw[wL,wL];refine CQ D M s acc b rest count 1 _ _ _ ?_;rw[ir D M _ _ _ (by omega) _ h];dsimp only;rw[zf (by simp),hz,DX s at_ b _ _ (by omega),DX s at_ b _ _ (by omega),show at_+(b-at_)=b from by omega,yd]
theorem Rn (D M:Int)(s:ByteArray)(acc:List It)(b:Nat)(rest:List (List It×Nat))(at_ count:Nat)(o:at_<b)(m:b<=s.size)(H:Bool×Nat×Nat×Int)
 (j:hd (s.extract at_ b) (aG D (rest.length+2)) (aH M count)=H) (e:H.2.2.2=0) (i:H.1=true):
 fin D M s acc b rest at_ count=fin D M s [] (at_+H.2.1+H.2.2.1) ((acc,b)::rest) (at_+H.2.1) (count+1)/\at_+H.2.1+H.2.2.1<=b/\1<=H.2.1:=by
 have hz:(s.extract at_ b).size=b-at_:=ar _ _ _ m;have d:=tI (s.extract at_ b) (aG D (rest.length+2)) (aH M count);rw[j]at d;have d:=d e;refine⟨?_,by omega,d.2.2.2 i⟩;have h:=dT D M (s.extract at_ b) (rest.length+2) count H j;rw[zf (show¬H.2.2.2≠0 by simp[e]),zf (show¬H.1=false by simp[i]),DX s at_ b _ _ (by omega),<-yd,show rest.length+2+1=rest.length+3 from by omega]at h;rw[wL,ir D M _ _ _ (by omega) _ h,fin];have k:=N7 D M (s.extract (at_+H.2.1) (at_+H.2.1+H.2.2.1)).size (s.extract (at_+H.2.1) (at_+H.2.1+H.2.2.1)) (rest.length+3) (count+1) (ze _);generalize cR D M (s.extract (at_+H.2.1) (at_+H.2.1+H.2.2.1)) (rest.length+3) (count+1)=R at*;by_cases c:R.e≠0
 ·have l:within R.e≠0:=by unfold within;split<;>simp_all
  have n:within R.e=R.e:=by unfold within;rw[zf k]
  rw[zg c,zg (show(Rd.bad R.e).e≠0 from c)];unfold N6;rw[zg (show(LQ.bad (within (Rd.bad R.e).e)).e≠0 from l)];show Rd.bad (within R.e)=_
  rw[n,zg c]
 rw[zf c];dsimp only;rw[zf (by simp),wL,hz,DX s at_ b _ _ (by omega),show at_+(b-at_)=b from by omega,<-yd];refine(CQ D M s acc b rest count (1+R.items) (gS R.xs) _ _ rfl).trans ?_;rw[zf c];simp[gS,yd]
theorem N8 (D M:Int)(s:ByteArray)(acc:List It)(b:Nat)(f:List It×Nat)(rest:List (List It×Nat))(count:Nat)(c:b<=s.size):fin D M s acc b (f::rest) b count=fin D M s (f.1++ [gS acc]) f.2 rest b count:=by
 rw[fin,jA _ _ _ _ _ (by rw[ar _ _ _ c];omega)];simp
theorem Ro (D M:Int)(s:ByteArray)(acc:List It)(b:Nat)(count:Nat)(c:b<=s.size):fin D M s acc b [] b count=⟨gS acc,b,count,0⟩:=by
 rw[fin,jA _ _ _ _ _ (by rw[ar _ _ _ c];omega)];simp
theorem sG (D M:Int)(s:ByteArray)(H:Bool×Nat×Nat×Int)(c:hd s (aG D 1) (aH M 0)=H):
 (H.2.2.2≠0->bs D M s 1 0=Rd.bad H.2.2.2)/\(H.2.2.2=0->H.1=false->bs D M s 1 0=⟨.mk (s.extract H.2.1 (H.2.1+H.2.2.1)) false [],H.2.1+H.2.2.1,1,0⟩)/\
 (H.2.2.2=0->H.1=true->bs D M s 1 0=fin D M s [] (H.2.1+H.2.2.1) [] H.2.1 1):=by
 refine⟨fun h=> ?_,fun h b=> ?_,fun h b=> ?_⟩
 ·rw[dT D M s 1 0 H c,zg h]
 ·rw[dT D M s 1 0 H c,zf (by simp[h]),zg b]
 rw[dT D M s 1 0 H c,zf (by simp[h]),zf (by simp[b]),fin];simp only[zK];split
 ·rfl
 simp[gS]
theorem ey (b n:Nat):(cF b n).length=if n<=55 then 1 else 1+(cJ n).length:=by unfold cF;split<;>simp;omega
theorem Gm (s:ByteArray)(b n:Nat)(r:List UInt8)(z:b=128\/b=192)(c:s.data.toList=cF b n++r)(y:n<=r.length)(u:n<18446744073709551616)(o:b=128->n=1->128<=(r.getD 0 0).toNat):
 CO s=(decide (b=192),(cF b n).length,n,0):=by
 have hz:s.size=(cF b n).length+r.length:=by rw[<-aa,c,zh]
 rw[ey]at hz⊢;by_cases h:n<=55
 ·rw[zg h]at hz⊢;rw[cF,zg h]at c;have d:(s.data.toList.getD 0 0).toNat=b+n:=by rw[c,ZH,Z1,bn _ (by omega)]
  have i:s.data.toList.getD 1 0=r.getD 0 0:=by rw[c,ZH,List.getD_cons_succ]
  unfold CO;rw[d,i];dsimp only;have k:(if 192<=b+n then b+n-192 else b+n-128)=n:=by split<;>omega
  have j:decide (192<=b+n)=decide (b=192):=by rw[yP];simp;omega
  rw[zf (by omega),k,j];simp only[zg h];rw[zf (by omega),zf];rintro⟨q,a2,a3⟩;have a4:b=128:=by
   have:b≠192:=by simpa using q
   omega
  have:=o a4 a2;omega
 rw[zf h]at hz⊢;rw[cF,zf h]at c;have x:=gC 8 n (by simpa using u);have A:1<=(cJ n).length:=by
  have:=LP n (by omega);cases hl:cJ n with
  |nil=>exact absurd hl this
  |cons a b=>simp
 have p:=CN n (by omega);have d:(s.data.toList.getD 0 0).toNat=b+55+(cJ n).length:=by rw[c,zT,Z1,bn _ (by omega)]
 have i:s.data.toList.getD 1 0=(cJ n).getD 0 0:=by
  rw[c,zT,List.getD_cons_succ,zu,xB (by omega),<-zu]
 have l:(s.extract 1 (1+(cJ n).length)).data.toList=cJ n:=by
  rw[aq,c,zT,Zx 1,zO,zV,zG,zS (ze _),ZM]
 have w:((cJ n).getD 0 0).toNat≠0:=fun e=>p (zP.1 e)
 unfold CO;rw[d,i];dsimp only;have k:(if 192<=b+55+(cJ n).length then b+55+(cJ n).length-192 else b+55+(cJ n).length-128)=55+(cJ n).length:=by split<;>omega
 have j:decide (192<=b+55+(cJ n).length)=decide (b=192):=by rw[yP];simp;omega
 rw[zf (by omega),k,j];have m:¬55+(cJ n).length<=55:=by omega
 simp only[zf m,Nat.add_sub_cancel_left,l,LO];rw[zf (by omega),zf (by omega),zf (by omega)]
theorem aag (s:ByteArray)(z:0<s.size)(H:Bool×Nat×Nat×Int)(A:CO s=H)(c:H.2.2.2=0):
 (H=(false,0,1,0)/\(s.data.toList.getD 0 0).toNat<128)\/
 (s.data.toList.take H.2.1=cF (if H.1=true then 192 else 128) H.2.2.1/\1<=H.2.1/\H.2.1=(cF (if H.1=true then 192 else 128) H.2.2.1).length/\¬(H.1=false/\H.2.2.1=1/\(s.data.toList.getD H.2.1 0).toNat<128)):=by
 subst A;have m:s.data.toList=s.data.toList.getD 0 0::s.data.toList.drop 1:=by
  have:=drop_cons s 0 z;rw[zG]at this;rw[this];simp
 unfold CO at c⊢;dsimp only at c⊢;have B:=(s.data.toList.getD 0 0).toNat_lt;have r:ub (((s.data.toList.getD 0 0).toNat:Nat):Int)=s.data.toList.getD 0 0:=by
  apply zP.1;rw[bn _ B]
 generalize D:(s.data.toList.getD 0 0).toNat=b at*;by_cases l:b<128
 ·rw[zg l];exact .inl ⟨rfl,l⟩
 rw[zf l]at c⊢;right;generalize q:(if 192<=b then b-192 else b-128)=d at*;have x:(if decide (192<=b)=true then 192 else 128)+d=b:=by
  rw[<-q];by_cases h:192<=b<;>simp[h];omega
 have C:d<=63:=by rw[<-q];split<;>omega
 by_cases j:d<=55
 ·simp only[zg j]at c⊢;by_cases i:s.size<1+d
  ·rw[zg i]at c;simp at c
  rw[zf i]at c⊢;split at c
  ·simp at c
  rename_i k
  rw[zf k];dsimp only;refine⟨?_,ze _, ?_,k⟩
  ·rw[m,zO,yq,cF,zg j,x,r]
  rw[ey,zg j]
 simp only[zf j]at c⊢;by_cases i:s.size<1+(d-55)
 ·rw[zg i]at c;simp at c
 rw[zf i]at c⊢;split at c
 ·simp at c
 rename_i k
 rw[zf k];split at c
 ·simp at c
 rename_i u
 rw[zf u];dsimp only;have w:(s.data.toList.getD 1 0).toNat≠0:=by omega
 have y:(s.extract 1 (1+(d-55))).data.toList=(s.data.toList.drop 1).take (d-55):=by rw[aq,List.take_drop]
 have o:((s.data.toList.drop 1).take (d-55)).length=d-55:=by rw[zQ,zN,aa];omega
 have p:cJ (mL (s.extract 1 (1+(d-55))).data.toList)=(s.data.toList.drop 1).take (d-55):=by
  rw[y];refine Ge _ ?_;rw[zu,yk (by omega),y8,<-zu];intro e;apply w;rw[show 1+0=1 from rfl]at e;rw[e];rfl
 generalize mL (s.extract 1 (1+(d-55))).data.toList=n at*;refine⟨?_,by omega, ?_, ?_⟩
 ·rw[cF,zf (by omega),p,o];rw[m,Zx 1 (d-55),zO,zV,zG];congr 1
  rw[<-r];congr 2;omega
 ·rw[ey,zf (by omega),p,o]
 omega
theorem Xx (s:ByteArray)(d m:Bool)(h:(hd s d m).2.2.2=0):0<s.size/\d=false/\m=false/\hd s d m=CO s:=by
 unfold hd at h⊢;by_cases e:s.size=0
 ·rw[zg e]at h;simp at h
 rw[zf e]at h⊢;by_cases b:d=true
 ·rw[zg b]at h;simp at h
 rw[zf b]at h⊢;by_cases c:m=true
 ·rw[zg c]at h;simp at h
 rw[zf c];exact⟨by omega,by simpa using b,by simpa using c,rfl⟩
theorem wM {D:Int}{deep:Nat}:aG D deep=false↔(deep:Int)<=D/\deep<=16:=by simp[aG]
theorem pJ {ahead:Nat}:aH M ahead=false↔(ahead:Int)+1<=M/\ahead+1<=1024:=by simp[aH]
structure aek (D M:Int)(x:It)(l:List UInt8)(deep ahead items:Nat):Prop where
 fB:x.fB=l
 right:x.right=true
 items:items=x.count
 deepD:(deep:Int)+x.deep<=D+1
 deep16:deep+x.deep<=17
 manyM:(ahead:Int)+x.count<=M
 many:ahead+x.count<=1024
structure Xy (D M:Int)(xs:List It)(l:List UInt8)(deep ahead items:Nat):Prop where
 fB:fu xs=l
 right:dj xs=true
 items:items=aC xs
 deepD:xs≠ []->(deep:Int)+cK xs<=D+1
 deep16:xs≠ []->deep+cK xs<=17
 manyM:xs≠ []->(ahead:Int)+aC xs<=M
 many:xs≠ []->ahead+aC xs<=1024
theorem Rp (x:It):1<=x.deep:=by cases x;simp[It.deep]
theorem Vj (D M:Int):∀(z:Nat),(∀(s:ByteArray) (deep ahead:Nat),s.size<=z->(bs D M s deep ahead).e=0->aek D M (bs D M s deep ahead).x (s.data.toList.take (bs D M s deep ahead).size) deep ahead (bs D M s deep ahead).items)/\
 (∀(s:ByteArray) (deep ahead:Nat),s.size<=z->(cR D M s deep ahead).e=0->Xy D M (cR D M s deep ahead).xs s.data.toList deep ahead (cR D M s deep ahead).items):=by
 have J:∀(s:ByteArray) (deep ahead:Nat),s.size=0->Xy D M (cR D M s deep ahead).xs s.data.toList deep ahead (cR D M s deep ahead).items:=by
  intro s deep ahead h;rw[jA _ _ _ _ _ h];have:s.data.toList= []:=zk (by rw[aa];exact h);rw[this];exact⟨rfl,rfl,rfl,by simp,by simp,by simp,by simp⟩
 intro z;induction z with
 |zero=>
  refine⟨fun s deep ahead hz d=> ?_,fun s deep ahead hz _=>J s deep ahead (by omega)⟩;rw[dT D M s deep ahead _ rfl]at d;have:hd s (aG D deep) (aH M ahead)=(false,0,0,2):=by simp[hd,show s.size=0 by omega]
  rw[this]at d;simp[Rd.bad]at d
 |succ z ih=>
  obtain⟨af,G⟩:=ih;have O:∀(s:ByteArray) (deep ahead:Nat),s.size<=z+1->(bs D M s deep ahead).e=0->aek D M (bs D M s deep ahead).x (s.data.toList.take (bs D M s deep ahead).size) deep ahead (bs D M s deep ahead).items:=by
   intro s deep ahead hz d;have c:=dT D M s deep ahead _ rfl;have o:=Xx s (aG D deep) (aH M ahead);have m:=tI s (aG D deep) (aH M ahead);generalize hd s (aG D deep) (aH M ahead)=H at*;by_cases j:H.2.2.2≠0
   ·rw[zg j]at c;rw[c]at d;exact absurd d j
   have B:=zC.1 j;obtain⟨X,Wz,U,Y⟩:=o B;obtain⟨_,L,ae,W⟩:=m B;obtain⟨d1,d2⟩:=wM.1 Wz;obtain⟨m1,m2⟩:=pJ.1 U;have his:=aag s X H Y.symm B;rw[zf j]at c;by_cases i:H.1=false
   ·rw[zg i]at c;rw[c];dsimp only;have l:(s.extract H.2.1 (H.2.1+H.2.2.1)).size=H.2.2.1:=by rw[ar _ _ _ L];omega
    have n:s.data.toList.take H.2.1++(s.extract H.2.1 (H.2.1+H.2.2.1)).data.toList=s.data.toList.take (H.2.1+H.2.2.1):=by
     rw[aq];have:=zE H.2.1 (s.data.toList.take (H.2.1+H.2.2.1));rwa [xw,yF (by omega)]at this
    refine⟨?_,by simp[It.right,formed,dj],by simp[It.count,aC],by simp[It.deep,cK];omega,by simp[It.deep,cK];omega,by simp[It.count,aC];omega,by simp[It.count,aC];omega⟩;have F:(s.extract H.2.1 (H.2.1+H.2.2.1)).data.toList.getD 0 0=if H.2.2.1=0 then 0 else s.data.toList.getD H.2.1 0:=by
     rw[aq,zu,y8];split
     ·rename_i h;rw[yZ (by rw[zQ];omega)];rfl
     rw[yk (by omega),<-zu];rfl
    rcases his with⟨r,S⟩|⟨k,h4,K,I⟩
    ·rw[r]at l n F⊢;dsimp only at*;rw[It.fB,zf (by simp),zg ⟨l,by rw[F];simpa using S⟩,<-n];simp
    rw[It.fB,zf (by simp),zf (by rintro⟨a,b⟩;apply I;rw[l]at a;rw[F,zf (by omega)]at b;exact⟨i,a,b⟩),l,<-n,k,zf (by simp[i])]
   rw[zf i]at c;have N:H.1=true:=by simpa using i
   have l:(s.extract H.2.1 (H.2.1+H.2.2.1)).size=H.2.2.1:=by rw[ar _ _ _ L];omega
   have ad:=W N;have hS:=G (s.extract H.2.1 (H.2.1+H.2.2.1)) (deep+1) (ahead+1) (by omega);have n:s.data.toList.take H.2.1++(s.extract H.2.1 (H.2.1+H.2.2.1)).data.toList=s.data.toList.take (H.2.1+H.2.2.1):=by
    rw[aq];have:=zE H.2.1 (s.data.toList.take (H.2.1+H.2.2.1));rwa [xw,yF (by omega)]at this
   generalize cR D M (s.extract H.2.1 (H.2.1+H.2.2.1)) (deep+1) (ahead+1)=R at*;by_cases k:R.e≠0
   ·rw[zg k]at c;rw[c]at d;exact absurd d k
   rw[zf k]at c;rw[c];dsimp only;obtain⟨A,C,y,x,u,p,E⟩:=hS (zC.1 k);have q:R.xs= []\/R.xs≠ []:=by cases R.xs<;>simp
   refine⟨?_,by simp[It.right,formed,C],by simp[It.count,y], ?_, ?_, ?_, ?_⟩
   ·rcases his with⟨r,_⟩|⟨K,I,h7,h8⟩
    ·rw[r]at i;simp at i
    rw[It.fB,zg rfl,A,aa,l,<-n,K,zg N]
   all_goals
    rcases q with e|e
    ·rw[e];simp[It.deep,cK,It.count,aC];try omega
    first
    |(have:=x e;simp only[It.deep];omega)
    |(have:=u e;simp only[It.deep];omega)
    |(have:=p e;simp only[It.count];omega)
    |(have:=E e;simp only[It.count];omega)
  refine⟨O,fun s deep ahead hz d=> ?_⟩;by_cases o:s.size=0
  ·exact J s deep ahead o
  have c:=ir D M s deep ahead o _ rfl;have w:=O s deep ahead hz;have m:=nw D M (2*s.size+2) s deep ahead;change(bs D M s deep ahead).e=0->1<=(bs D M s deep ahead).size/\(bs D M s deep ahead).size<=s.size at m
  generalize bs D M s deep ahead=R at*;by_cases j:R.e≠0
  ·rw[zg j]at c;rw[c]at d;have:within R.e≠0:=by unfold within;split<;>simp_all
   exact absurd d this
  have w:=w (zC.1 j);have m:=m (zC.1 j);rw[zf j]at c;have ab:(s.extract R.size s.size).size=s.size-R.size:=ar _ _ _ (ze _);have hS:=G (s.extract R.size s.size) deep (ahead+R.items) (by omega);generalize cR D M (s.extract R.size s.size) deep (ahead+R.items)=T at*;by_cases i:T.e≠0
  ·rw[zg i]at c;rw[c]at d;exact absurd d i
  rw[zf i]at c;rw[c];dsimp only;obtain⟨Z,a2,a3,a4,a5,a6,a7⟩:=w;obtain⟨A,C,y,x,u,p,E⟩:=hS (zC.1 i);have q:T.xs= []\/T.xs≠ []:=by cases T.xs<;>simp
  refine⟨?_,by simp[dj,a2,C],by simp[aC,a3,y],fun _=> ?_,fun _=> ?_,fun _=> ?_,fun _=> ?_⟩
  ·rw[fu,Z,A,aq,cQ,zE]
  all_goals
   rcases q with e|e
   ·rw[e];simp only[cK,aC];omega
   have:=x e;have:=u e;have:=p e;have:=E e;simp only[cK,aC];omega
theorem aah (D M:Int)(x:It):∀(s:ByteArray) (more:List UInt8) (deep ahead:Nat),s.data.toList=x.fB++more->s.size<18446744073709551616->x.right=true->(deep:Int)+x.deep<=D+1->deep+x.deep<=17->(ahead:Int)+x.count<=M->ahead+x.count<=1024->
 bs D M s deep ahead=⟨.mk (if x.list=true then ByteArray.empty else x.text) x.list x.sub,x.fB.length,x.count,0⟩:=by
 induction x using It.ind with
 |h t l xs ih=>
  intro s more deep ahead c Y k r L H X;have hz:s.size=(It.mk t l xs).fB.length+more.length:=by rw[<-aa,c,zh]
  have Wz:=Rp (.mk t l xs);have vE:=su (.mk t l xs);have m:0<s.size->hd s (aG D deep) (aH M ahead)=CO s:=by
   intro h;unfold hd;rw[zf (by omega),wM.2 (by omega),pJ.2 (by omega)];simp
  cases l with
  |false=>
   have W:xs= []:=by
    simp only[It.right,formed,zv]at k;exact zk (by simpa using k.1)
   subst W;rw[It.fB,zf (by simp)]at c hz⊢;by_cases d:t.size=1/\(t.data.toList.getD 0 0).toNat<128
   ·rw[zg d]at c hz⊢;rw[aa]at hz;have E:s.data.toList.getD 0 0=t.data.toList.getD 0 0:=by
     rw[c,zu,xB (by rw[aa];omega),<-zu]
    have i:hd s (aG D deep) (aH M ahead)=(false,0,1,0):=by
     rw[m (by omega)];unfold CO;rw[E];dsimp only;rw[zg d.2]
    rw[dT D M s deep ahead _ i];simp only[It.vn,It.vm,It.gK,It.count,aC];have:s.extract 0 (0+1)=t:=by
     apply aE;rw[aq,c,zG,zS (by rw[aa];omega),zw (by rw[aa];omega)]
    simp[this,d.1]
   rw[zf d]at c hz⊢;rw[zB]at c;have i:hd s (aG D deep) (aH M ahead)=(decide (128=192),(cF 128 t.size).length,t.size,0):=by
    rw[zh,aa]at hz;have U:1<=(cF 128 t.size).length:=by rw[ey];split<;>omega
    rw[m (by omega)];refine Gm s 128 t.size _ (.inl rfl) c (by simp) (by omega) ?_;intro _ K;have:((t.data.toList++more).getD 0 0)=t.data.toList.getD 0 0:=by
     rw[zu,xB (by rw[aa];omega),<-zu]
    rw[this];exact Nat.le_of_not_lt fun h=>d ⟨K,h⟩
   rw[dT D M s deep ahead _ i];simp only[It.vn,It.vm,It.gK,It.count,aC];have:s.extract (cF 128 t.size).length ((cF 128 t.size).length+t.size)=t:=by
    apply aE;rw[aq,c,<-zB,zS (by rw[zh,aa];omega),zw (by rw[zh,aa];omega),List.drop_left]
   simp[this]
  |true=>
   rw[It.fB,zg rfl]at c hz⊢;rw[zB]at c;rw[zh]at hz;have U:1<=(cF 192 (fu xs).length).length:=by rw[ey];split<;>omega
   have i:hd s (aG D deep) (aH M ahead)=(decide (192=192),(cF 192 (fu xs).length).length,(fu xs).length,0):=by
    rw[m (by omega)];exact Gm s 192 (fu xs).length _ (.inr rfl) c (by simp) (by omega) (by omega)
   have o:(s.extract (cF 192 (fu xs).length).length ((cF 192 (fu xs).length).length+(fu xs).length)).data.toList=fu xs:=by
    rw[aq,c,<-zB,zS (by rw[zh];omega),zw (by rw[zh];omega),List.drop_left]
   rw[dT D M s deep ahead _ i];simp only[It.vn,It.vm,It.gK];rw[zf (by simp),zf (by simp)];simp only[It.right,zv]at k;have n:=k.2;have B:(deep:Int)+1+cK xs<=D+1:=by simp only[It.deep]at r;omega
   have N:deep+1+cK xs<=17:=by simp only[It.deep]at L;omega
   have Z:(ahead:Int)+1+aC xs<=M:=by simp only[It.count]at H;omega
   have ab:ahead+1+aC xs<=1024:=by simp only[It.count]at X;omega
   have C:∀(b:List It),(∀y∈b,y∈xs)->∀(u:ByteArray) (a:Nat),u.data.toList=fu b->u.size<18446744073709551616->dj b=true->(deep:Int)+1+cK b<=D+1->deep+1+cK b<=17->(a:Int)+aC b<=M->a+aC b<=1024->dj b=true->
    cR D M u (deep+1) a=⟨b,aC b,0⟩:=by
    intro b;induction b with
    |nil=>
     intro _ u a hu _ _ _ _ _ _ _;rw[jA _ _ _ _ _ (by rw[<-aa,hu];rfl)];rfl
    |cons y b ihy=>
     intro q u a hu R e F I J G _;simp only[dj,zv]at e;simp only[cK]at F I;simp only[aC]at J G;rw[fu]at hu;have p:=ih y (q y (by simp)) u (fu b) (deep+1) a hu R e.1 (by omega) (by omega) (by omega) (by omega);have S:(It.mk (if y.list=true then ByteArray.empty else y.text) y.list y.sub)=y:=by
      cases y with
      |mk t' l' s'=>
       simp only[It.vm,It.vn,It.gK];cases l' with
       |false=>simp
       |true=>
        have O:t'.size=0:=by
         have:=e.1;simp only[It.right,formed,zv]at this;simpa using this.1
        have:t'=ByteArray.empty:=aE (by rw[zk (show t'.data.toList.length=0 by rw[aa];exact O)];rfl);rw[this];simp
     have j:=nw D M (2*u.size+2) u (deep+1) a;change(bs D M u (deep+1) a).e=0->1<=(bs D M u (deep+1) a).size/\(bs D M u (deep+1) a).size<=u.size at j
     rw[p]at j;have j:=j rfl;dsimp only at j;rw[ir D M u (deep+1) a (by omega) _ p];dsimp only;rw[zf (by simp)];have w:(u.extract y.fB.length u.size).data.toList=fu b:=by rw[aq,cQ,hu,List.drop_left]
     have A:=ihy (fun z hz=>q z (by simp[hz])) (u.extract y.fB.length u.size) (a+y.count) w (by rw[ar _ _ _ (ze _)];omega) e.2 (by omega) (by omega) (by omega) (by omega) e.2;rw[A];dsimp only;rw[zf (by simp),S,aC]
   rw[C xs (fun _ h=>h) _ _ o (by rw[<-aa,o];omega) n B N (by omega) (by omega) n];dsimp only;rw[zf (by simp),zh,It.count];simp
theorem Vk (D M:Int)(x:It)(s:ByteArray)(more:List UInt8)(deep ahead:Nat)(i:s.data.toList=x.fB++more)(k:s.size<18446744073709551616)(b:x.right=true)(c:(deep:Int)+x.deep<=D+1)(d:deep+x.deep<=17)(e:(ahead:Int)+x.count<=M)(h:ahead+x.count<=1024):
 bs D M s deep ahead=⟨x,x.fB.length,x.count,0⟩:=by
 rw[aah D M x s more deep ahead i k b c d e h];cases x with
 |mk t l xs=>
  cases l with
  |false=>rfl
  |true=>
   have j:t.size=0:=by
    simp only[It.right,formed,zv]at b;simpa using b.1
   have:t=ByteArray.empty:=aE (by rw[zk (show t.data.toList.length=0 by rw[aa];exact j)];rfl);subst this;rfl
