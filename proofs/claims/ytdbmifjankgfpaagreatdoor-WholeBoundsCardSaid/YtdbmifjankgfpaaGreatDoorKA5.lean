/- Items as bytes: plain functions and their laws. -/
import Derived.Test.YtdbmifjankgfpaaGreatDoorKA4
set_option linter.all false
namespace Go.Proofs.YtdbmifjankgfpaaGreatDoor
variable {M z d:Int}{m n:Nat}
def zo:=@beq_eq_false_iff_ne
def zD:=@decide_eq_true
def zR:=@List.getElem_mem
def yj:=@of_decide_eq_true
def yU:=@List.getElem_cons_zero
def xd:=@Nat.add_zero
def Zg:=@Bool.and_true
def ZE:=@List.drop_left'
def ZH:=@List.getD_cons_zero
def Yd:=@List.length_eq_one_iff
theorem Kh (n:Nat):lI (cJ n)=n:=by
 induction n using Nat.strongRecOn with
 |ind n ih=>
  by_cases h:n=0
  ·subst h;rw[dy];rfl
  rw[gV h,uF,ih (n/256) (by omega),bo _ (by omega)];omega
theorem Ki (n:Nat)(h:n≠0):cJ n≠ []:=by rw[gV h];simp
theorem BV (n:Nat)(h:n≠0):(cJ n).getD 0 0≠0:=by
 induction n using Nat.strongRecOn with
 |ind n ih=>
  rw[gV h];by_cases c:n/256=0
  ·rw[c,dy,yy];intro e;have d:=bo (n%256) (by omega);simp only[ZH]at e;rw[e]at d;simp at d;omega
  have:=ih (n/256) (by omega) c;cases hl:cJ (n/256)with
  |nil=>exact absurd hl (Ki _ c)
  |cons a b=>rw[hl]at this;simpa using this
theorem ET (l:List UInt8)(h:l.getD 0 0≠0):cJ (lI l)=l:=by
 obtain⟨k,i⟩:∃k,l.length=k:=⟨_,rfl⟩
 induction k generalizing l with
 |zero=>obtain rfl:=zp i;simp at h
 |succ k ih=>
  have d:l≠ []:=by intro e;subst e;simp at i
  have e:=List.dropLast_concat_getLast d;have r:=(l.getLast d).toNat_lt;by_cases m:k=0
  ·subst m;match l,i with
   | [b],_=>
    have n:b.toNat≠0:=fun e=>h (by simp;exact zS.1 e)
    have p:=b.toNat_lt;have o:lI [b]=b.toNat:=by simp[lI,dh]
    rw[o,gV n,show b.toNat/256=0 from by omega,dy,yy];congr 1
    apply zS.1;rw[bo _ (by omega)];omega
  have c:l.dropLast.getD 0 0≠0:=by
   have:l.dropLast.getD 0 0=l.getD 0 0:=by
    rw[zw,zw,List.getElem?_dropLast,zi (by omega)]
   rw[this];exact h
  have j:=ih l.dropLast c (by rw[List.length_dropLast];omega);rw[<-e,uF,gV,show(256*lI l.dropLast+(l.getLast d).toNat)/256=lI l.dropLast from by omega,j]
  ·congr 2
   apply zS.1;rw[bo _ (by omega)];omega
  intro q;have:lI l.dropLast=0:=by omega
  rw[this,dy]at j;rw[<-j]at c;simp at c
def cM (b n:Nat):List UInt8:=if n<=55 then [ub ((b+n:Nat):Int)]else ub ((b+55+(cJ n).length:Nat):Int)::cJ n
mutual
def It.gN :It->List UInt8
 | .mk t l s=>if l=true then cM 192 (gL s).length++gL s else if t.size=1/\(t.data.toList.getD 0 0).toNat<128 then t.data.toList else cM 128 t.size++t.data.toList
def gL :List It->List UInt8
 | []=> []
 |x::xs=>x.gN++gL xs
end
def k9 (b:List UInt8):List UInt8:=cM 192 b.length++b
def eA (xs:List It)(b:List UInt8)(rest:List (List It×List UInt8)):List UInt8:=rest.foldl (fun inner f=>f.2++(k9 inner++gL f.1)) (b++gL xs)
theorem o9 (b c:List UInt8)(d:List It)(rest:List (List It×List UInt8)):eA [] b ((d,c)::rest)=eA d (c++k9 b) rest:=by simp[eA,gL]
theorem nh (x:It)(xs:List It)(b:List UInt8)(rest:List (List It×List UInt8)):eA (x::xs) b rest=eA xs (b++x.gN) rest:=by simp[eA,gL]
theorem EU (t:ByteArray)(s:List It)(xs:List It)(b:List UInt8)(rest:List (List It×List UInt8)):eA (.mk t true s::xs) b rest=eA s [] ((xs,b)::rest):=by simp[eA,gL,It.gN,k9]
def AG (s:ByteArray):Bool×Nat×Nat×Int:=
 let b:=(s.data.toList.getD 0 0).toNat
 if b<128 then(false,0,1,0)
 else
  let l:=decide (192<=b)
  let told:=if 192<=b then b-192 else b-128
  let size:=if told<=55 then 1 else 1+(told-55)
  let n:=if told<=55 then told else lI (s.extract 1 size).data.toList
  if told<=55 then
   if s.size<size+n then(false,0,0,2)
   else if l=false/\n=1/\(s.data.toList.getD 1 0).toNat<128 then(false,0,0,3)
   else(l,1,told,0)
  else
   if s.size<size then(false,0,0,2)
   else if(s.data.toList.getD 1 0).toNat=0\/n<=55 then(false,0,0,3)
   else if s.size<size+n then(false,0,0,2)
   else(l,size,n,0)
def hd (s:ByteArray)(deep many:Bool):Bool×Nat×Nat×Int:=
 if s.size=0 then(false,0,0,2)else if deep=true then(false,0,0,6)else if many=true then(false,0,0,4)else AG s
theorem WD (s:ByteArray)(k:0<s.size)(h:(AG s).2.2.2=0):(AG s).2.1+(AG s).2.2.1<=s.size/\1<=(AG s).2.1+(AG s).2.2.1/\((AG s).1=true->1<=(AG s).2.1):=by
 unfold AG at h⊢;dsimp only at h⊢;generalize (s.data.toList.getD 0 0).toNat=b at*;by_cases i:b<128
 ·rw[zi i]at h⊢;dsimp only;refine⟨by omega,by omega,by simp⟩
 rw[zh i]at h⊢;generalize (if 192<=b then b-192 else b-128)=told at*;by_cases e:told<=55
 ·simp only[zi e]at h⊢;by_cases c:s.size<1+told
  ·rw[zi c]at h;simp at h
  rw[zh c]at h⊢;split at h
  ·simp at h
  rename_i d;rw[zh d];dsimp only;refine⟨by omega,by omega,fun _=>by omega⟩
 simp only[zh e]at h⊢;generalize lI (s.extract 1 (1+(told-55))).data.toList=n at*;by_cases c:s.size<1+(told-55)
 ·rw[zi c]at h;simp at h
 rw[zh c]at h⊢;split at h
 ·simp at h
 rename_i d
 rw[zh d];split at h
 ·simp at h
 rename_i j
 rw[zh j];dsimp only;refine⟨by omega,by omega,fun _=>by omega⟩
theorem sW (s:ByteArray)(d m:Bool)(h:(hd s d m).2.2.2=0):0<s.size/\(hd s d m).2.1+(hd s d m).2.2.1<=s.size/\1<=(hd s d m).2.1+(hd s d m).2.2.1/\((hd s d m).1=true->1<=(hd s d m).2.1):=by
 unfold hd at h⊢;by_cases e:s.size=0
 ·rw[zi e]at h;simp at h
 rw[zh e]at h⊢;by_cases b:d=true
 ·rw[zi b]at h;simp at h
 rw[zh b]at h⊢;by_cases c:m=true
 ·rw[zi c]at h;simp at h
 rw[zh c]at h⊢;exact⟨by omega,WD s (by omega) h⟩
structure Rd where
 x:It
 size:Nat
 items:Nat
 e:Int
structure Kj where
 xs:List It
 items:Nat
 e:Int
def ju :It:= .mk ByteArray.empty false []
def Rd.bad (e:Int):Rd:=⟨ju,0,0,e⟩
def Kj.bad (e:Int):Kj:=⟨[],0,e⟩
def aG (D:Int)(deep:Nat):Bool:=decide (D<deep)||decide (16<deep)
def aH (M:Int)(ahead:Nat):Bool:=decide (M<ahead+1)||decide (1024<ahead+1)
def within (e:Int):Int:=if e=2 then 3 else e
mutual
def qe (D M:Int):Nat->ByteArray->Nat->Nat->Rd
 |0,_,_,_=>Rd.bad 2
 |f+1,s,deep,ahead=>
  if(hd s (aG D deep) (aH M ahead)).2.2.2≠0 then Rd.bad (hd s (aG D deep) (aH M ahead)).2.2.2
  else if(hd s (aG D deep) (aH M ahead)).1=false then
   ⟨.mk (s.extract (hd s (aG D deep) (aH M ahead)).2.1 ((hd s (aG D deep) (aH M ahead)).2.1+(hd s (aG D deep) (aH M ahead)).2.2.1)) false [],
    (hd s (aG D deep) (aH M ahead)).2.1+(hd s (aG D deep) (aH M ahead)).2.2.1,1,0⟩
  else
   if(EV D M f (s.extract (hd s (aG D deep) (aH M ahead)).2.1 ((hd s (aG D deep) (aH M ahead)).2.1+(hd s (aG D deep) (aH M ahead)).2.2.1)) (deep+1) (ahead+1)).e≠0
   then Rd.bad (EV D M f (s.extract (hd s (aG D deep) (aH M ahead)).2.1 ((hd s (aG D deep) (aH M ahead)).2.1+(hd s (aG D deep) (aH M ahead)).2.2.1)) (deep+1) (ahead+1)).e
   else⟨.mk ByteArray.empty true (EV D M f (s.extract (hd s (aG D deep) (aH M ahead)).2.1 ((hd s (aG D deep) (aH M ahead)).2.1+(hd s (aG D deep) (aH M ahead)).2.2.1)) (deep+1) (ahead+1)).xs,
    (hd s (aG D deep) (aH M ahead)).2.1+(hd s (aG D deep) (aH M ahead)).2.2.1,
    1+(EV D M f (s.extract (hd s (aG D deep) (aH M ahead)).2.1 ((hd s (aG D deep) (aH M ahead)).2.1+(hd s (aG D deep) (aH M ahead)).2.2.1)) (deep+1) (ahead+1)).items,0⟩
def EV (D M:Int):Nat->ByteArray->Nat->Nat->Kj
 |0,_,_,_=>Kj.bad 2
 |f+1,s,deep,ahead=>
  if s.size=0 then⟨[],0,0⟩
  else if(qe D M f s deep ahead).e≠0 then Kj.bad (within (qe D M f s deep ahead).e)
  else if(EV D M f (s.extract (qe D M f s deep ahead).size s.size) deep (ahead+(qe D M f s deep ahead).items)).e≠0
   then Kj.bad (EV D M f (s.extract (qe D M f s deep ahead).size s.size) deep (ahead+(qe D M f s deep ahead).items)).e
  else⟨(qe D M f s deep ahead).x::(EV D M f (s.extract (qe D M f s deep ahead).size s.size) deep (ahead+(qe D M f s deep ahead).items)).xs,
   (qe D M f s deep ahead).items+(EV D M f (s.extract (qe D M f s deep ahead).size s.size) deep (ahead+(qe D M f s deep ahead).items)).items,0⟩
end
theorem ni (D M:Int)(f:Nat)(s:ByteArray)(deep ahead:Nat)(h:(qe D M f s deep ahead).e=0):1<=(qe D M f s deep ahead).size/\(qe D M f s deep ahead).size<=s.size:=by
 cases f with
 |zero=>simp[qe,Rd.bad]at h
 |succ f=>
  rw[qe]at h⊢;have e:=sW s (aG D deep) (aH M ahead);generalize hd s (aG D deep) (aH M ahead)=H at*;by_cases b:H.2.2.2≠0
  ·rw[zi b]at h;exact absurd h b
  rw[zh b]at h⊢;have e:=e (zC.1 b);by_cases d:H.1=false
  ·rw[zi d];dsimp only;omega
  rw[zh d]at h⊢;split at h
  ·rename_i c;exact absurd h c
  rename_i c;rw[zh c];dsimp only;omega
theorem CQ (D M:Int):∀(z:Nat),(∀(s:ByteArray) (deep ahead f g:Nat),s.size<=z->2*s.size<=f->2*s.size<=g->qe D M f s deep ahead=qe D M g s deep ahead)/\
 (∀(s:ByteArray) (deep ahead f g:Nat),s.size<=z->2*s.size+1<=f->2*s.size+1<=g->EV D M f s deep ahead=EV D M g s deep ahead):=by
 intro z;induction z with
 |zero=>
  refine⟨fun s deep ahead f g hz _ _=> ?_,fun s deep ahead f g hz h i=> ?_⟩
  ·have e:s.size=0:=by omega
   have q:∀d m,hd s d m=(false,0,0,2):=fun d m=>by simp[hd,e]
   have:∀f,qe D M f s deep ahead=Rd.bad 2:=by
    intro f;cases f with
    |zero=>rfl
    |succ f=>rw[qe];simp[q]
   rw[this f,this g]
  obtain⟨f,rfl⟩:∃k,f=k+1:=⟨f-1,by omega⟩
  obtain⟨g,rfl⟩:∃k,g=k+1:=⟨g-1,by omega⟩
  rw[EV,EV,zi (by omega),zi (by omega)]
 |succ z ih=>
  obtain⟨o,j⟩:=ih;have n:∀(s:ByteArray) (deep ahead f g:Nat),s.size<=z+1->2*s.size<=f->2*s.size<=g->qe D M f s deep ahead=qe D M g s deep ahead:=by
   intro s deep ahead f g hz h i;by_cases e:s.size=0
   ·exact o s deep ahead f g (by omega) h i
   obtain⟨f,rfl⟩:∃k,f=k+1:=⟨f-1,by omega⟩
   obtain⟨g,rfl⟩:∃k,g=k+1:=⟨g-1,by omega⟩
   rw[qe,qe];have c:=sW s (aG D deep) (aH M ahead);generalize hd s (aG D deep) (aH M ahead)=H at*;by_cases b:H.2.2.2≠0
   ·rw[zi b,zi b]
   have c:=c (zC.1 b);by_cases l:H.1=false
   ·rw[zh b,zh b,zi l,zi l]
   have r:=c.2.2.2 (by simpa using l);have p:(s.extract H.2.1 (H.2.1+H.2.2.1)).size=H.2.2.1:=by rw[an _ _ _ c.2.1];omega
   rw[j (s.extract H.2.1 (H.2.1+H.2.2.1)) (deep+1) (ahead+1) f g (by omega) (by omega) (by omega)]
  refine⟨n,fun s deep ahead f g hz h i=> ?_⟩;by_cases e:s.size=0
  ·exact j s deep ahead f g (by omega) h i
  obtain⟨f,rfl⟩:∃k,f=k+1:=⟨f-1,by omega⟩
  obtain⟨g,rfl⟩:∃k,g=k+1:=⟨g-1,by omega⟩
  rw[EV,EV,zh e,zh e,n s deep ahead f g hz (by omega) (by omega)];have c:=ni D M g s deep ahead;generalize qe D M g s deep ahead=R at*;by_cases b:R.e≠0
  ·rw[zi b,zi b]
  have c:=c (zC.1 b);have p:(s.extract R.size s.size).size=s.size-R.size:=an _ _ _ (zg _);rw[j (s.extract R.size s.size) deep (ahead+R.items) f g (by omega) (by omega) (by omega)]
def bu (D M:Int)(s:ByteArray)(deep ahead:Nat):Rd:=qe D M (2*s.size+2) s deep ahead
def cV (D M:Int)(s:ByteArray)(deep ahead:Nat):Kj:=EV D M (2*s.size+1) s deep ahead
theorem dW (D M:Int)(s:ByteArray)(deep ahead:Nat)(H:Bool×Nat×Nat×Int)(e:hd s (aG D deep) (aH M ahead)=H):bu D M s deep ahead=
 if H.2.2.2≠0 then Rd.bad H.2.2.2
 else if H.1=false then⟨.mk (s.extract H.2.1 (H.2.1+H.2.2.1)) false [],H.2.1+H.2.2.1,1,0⟩
 else if(cV D M (s.extract H.2.1 (H.2.1+H.2.2.1)) (deep+1) (ahead+1)).e≠0 then Rd.bad (cV D M (s.extract H.2.1 (H.2.1+H.2.2.1)) (deep+1) (ahead+1)).e
 else⟨.mk ByteArray.empty true (cV D M (s.extract H.2.1 (H.2.1+H.2.2.1)) (deep+1) (ahead+1)).xs,H.2.1+H.2.2.1,1+(cV D M (s.extract H.2.1 (H.2.1+H.2.2.1)) (deep+1) (ahead+1)).items,0⟩:=by
 subst e;rw[bu,qe];have c:=sW s (aG D deep) (aH M ahead);generalize hd s (aG D deep) (aH M ahead)=H at*;by_cases b:H.2.2.2≠0
 ·rw[zi b,zi b]
 have c:=c (zC.1 b);by_cases d:H.1=false
 ·rw[zh b,zh b,zi d,zi d]
 have h:(s.extract H.2.1 (H.2.1+H.2.2.1)).size=H.2.2.1:=by rw[an _ _ _ c.2.1];omega
 rw[cV,(CQ D M s.size).2 (s.extract H.2.1 (H.2.1+H.2.2.1)) (deep+1) (ahead+1) (2*s.size+1) (2*(s.extract H.2.1 (H.2.1+H.2.2.1)).size+1) (by omega) (by omega) (by omega)]
theorem jG (D M:Int)(s:ByteArray)(deep ahead:Nat)(h:s.size=0):cV D M s deep ahead=⟨[],0,0⟩:=by rw[cV,EV,zi h]
theorem iy (D M:Int)(s:ByteArray)(deep ahead:Nat)(h:s.size≠0)(R:Rd)(d:bu D M s deep ahead=R):cV D M s deep ahead=
 if R.e≠0 then Kj.bad (within R.e)
 else if(cV D M (s.extract R.size s.size) deep (ahead+R.items)).e≠0 then Kj.bad (cV D M (s.extract R.size s.size) deep (ahead+R.items)).e
 else⟨R.x::(cV D M (s.extract R.size s.size) deep (ahead+R.items)).xs,R.items+(cV D M (s.extract R.size s.size) deep (ahead+R.items)).items,0⟩:=by
 subst d;rw[cV,EV,zh h,bu,(CQ D M s.size).1 s deep ahead (2*s.size) (2*s.size+2) (by omega) (by omega) (by omega)];have c:=ni D M (2*s.size+2) s deep ahead;generalize qe D M (2*s.size+2) s deep ahead=R at*;by_cases b:R.e≠0
 ·rw[zi b,zi b]
 have c:=c (zC.1 b);have e:(s.extract R.size s.size).size=s.size-R.size:=an _ _ _ (zg _);rw[cV,(CQ D M s.size).2 (s.extract R.size s.size) deep (ahead+R.items) (2*s.size) (2*(s.extract R.size s.size).size+1) (by omega) (by omega) (by omega)]
mutual
def It.lay :It->Ty->List UInt8
 | .mk tx _ s,t=>if t.kind=1 then jF (lI tx.data.toList) t.size.toNat else if t.kind=2 then tx.data.toList else if t.kind=3 then dC tx.size++tx.data.toList
  else if t.kind=4 then dC s.length++cz s t 0 else cz s t 0
def cz :List It->Ty->Nat->List UInt8
 | [],_,_=> []
 |x::xs,t,i=>x.lay (t.at i)++cz xs t (i+1)
end
theorem sX (a b:List It)(t:Ty)(i:Nat):cz (a++b) t i=cz a t i++cz b t (i+a.length):=by
 induction a generalizing i with
 |nil=>simp[cz]
 |cons x xs ih=>simp only[ya,cz,ih,zx,zE];rw[show i+1+xs.length=i+(xs.length+1)from by omega]
theorem BW {s:List It}{k:Nat}{t:Ty}(h:k<s.length):cz (s.take (k+1)) t 0=cz (s.take k) t 0++s[k].lay (t.at k):=by
 rw[lL s k h,sX];simp[cz,yF (Yc h)]
mutual
def Ty.full :Ty->Bool
 | .mk _ _ l t=>decide (t=0)&&ch l
def ch :List Ty->Bool
 | []=>true
 |x::xs=>x.full&&ch xs
end
def Ty.flat (t:Ty):Bool:=t.may&&ch t.sub
structure SL where
 e:Int
 x:It
 n:Nat
 q:List UInt8
structure la where
 e:Int
 xs:List It
 n:Nat
 q:List UInt8
def SL.bad (e:Int)(n:Nat)(q:List UInt8):SL:=⟨e,ju,n,q⟩
def la.cons (x:It)(r:la):la:=⟨r.e,x::r.xs,r.n,r.q⟩
def la.list (r:la):SL:=⟨r.e,.mk ⟨#[]⟩ true r.xs,r.n,r.q⟩
def tG (f:Nat->List UInt8->SL):Nat->Nat->List UInt8->la
 |0,n,r=>⟨0,[],n,r⟩
 |c+1,n,r=>if(f n r).e≠0 then⟨(f n r).e,[(f n r).x],(f n r).n,(f n r).q⟩else(tG f c (f n r).n (f n r).q).cons (f n r).x
mutual
def Ty.rd (M:Int):Ty->Nat->List UInt8->SL
 | .mk k z l ta,n,r=>
  if M<=n then .bad 4 n r
  else if k=1 then(if r.length<z.toNat then .bad 2 (n+1) r else⟨0,.mk ⟨(cJ (dh (r.take z.toNat))).toArray⟩ false [],n+1,r.drop z.toNat⟩)
  else if k=2 then(if r.length<z.toNat then .bad 2 (n+1) r else⟨0,.mk ⟨(r.take z.toNat).toArray⟩ false [],n+1,r.drop z.toNat⟩)
  else if k=3 then
   (if(aA r).2.2≠0 then .bad (aA r).2.2 (n+1) r else if z<(aA r).1 then .bad 5 (n+1) r
   else if(r.drop (aA r).2.1).length<(aA r).1 then .bad 2 (n+1) (r.drop (aA r).2.1)
   else⟨0,.mk ⟨((r.drop (aA r).2.1).take (aA r).1).toArray⟩ false [],n+1,(r.drop (aA r).2.1).drop (aA r).1⟩)
  else if k=4 then
   (if(aA r).2.2≠0 then .bad (aA r).2.2 (n+1) r else if z<(aA r).1 then .bad 5 (n+1) r
   else(rdF M l (aA r).1 (n+1) (r.drop (aA r).2.1)).list)
  else(nX M l ((l.length:Int)-ta).toNat (n+1) r).list
def rdF (M:Int):List Ty->Nat->Nat->List UInt8->la
 | [],_,n,r=>⟨0,[],n,r⟩
 |x::_,c,n,r=>tG (fun n r=>x.rd M n r) c n r
def nX (M:Int):List Ty->Nat->Nat->List UInt8->la
 | [],_,n,r=>⟨0,[],n,r⟩
 |x::xs,m,n,r=>if m=0/\r= []then⟨0,[],n,r⟩
  else if(x.rd M n r).e≠0 then⟨(x.rd M n r).e,[(x.rd M n r).x],(x.rd M n r).n,(x.rd M n r).q⟩
  else(nX M xs (m-1) (x.rd M n r).n (x.rd M n r).q).cons (x.rd M n r).x
end
theorem WE (l:List UInt8)(h:gG l=false):cJ (lI l)=l:=by
 cases l with
 |nil=>simp[lI,dh,dy]
 |cons b t=>
  apply ET;have:(b==0)=false:=h;intro e;have c:b=0:=by simpa using e
  rw[c]at this;simp at this
theorem vm {s:List It}(h:dq s=true):∀x∈s,x.right=true:=by
 induction s with
 |nil=>simp
 |cons y ys ih=>
  simp only[dq,zy]at h;intro x hx;rcases xe.1 hx with rfl|hx
  ·exact h.1
  exact ih h.2 x hx
theorem lP {k:Int}{l:List Ty}{b:Int}(h:(Ty.mk k z l b).full=true):b=0/\ch l=true:=by
 simpa only[Ty.full,zy,yb]using h
def Pm (t:Ty)(x:It)(q:List UInt8):Prop:=t.kind=5->(x.sub.length<t.sub.length->q= [])/\∀j (hj:j<x.sub.length) (mN:j<t.sub.length),((t.sub.length:Int)-t.tail).toNat<=j->(x.sub[j]).lay (t.sub[j])≠ []
theorem nk {t:Ty}{x:It}(h:t.full=true)(hi:x.dr t=true)(q:List UInt8):Pm t x q:=by
 intro d;obtain⟨k,z,l,n⟩:=t;obtain⟨m,b,s⟩:=x;obtain⟨rfl,_⟩:=lP h;simp only[Ty.J7]at d;subst d;simp[It.dr,ow]at hi;obtain⟨⟨⟨_,o⟩,p⟩,_⟩:=hi;refine⟨fun c=> ?_,fun j i e c=> ?_⟩
 ·simp only[It.gS,Ty.gS]at c;omega
 simp only[It.gS,Ty.gS,Ty.CH]at i e c;omega
theorem Kk {a t:Ty}{f:Nat->List UInt8->SL}:∀(s:List It) (i n:Nat) (q:List UInt8),(∀j,t.at (i+j)=a)->(∀x∈s,∀(n:Nat) (q:List UInt8),(n:Int)+x.count<=M->f n (x.lay a++q)=⟨0,x,n+x.count,q⟩)->(n:Int)+aN s<=M->
 tG f s.length n (cz s t i++q)=⟨0,s,n+aN s,q⟩
 | [],i,n,q,_,_,_=>by simp[tG,cz,aN]
 |x::xs,i,n,q,ha,hf,hM=>by
  simp only[aN]at hM;have b:=ha 0;rw[xd]at b;have hx:=hf x (by simp) n (cz xs t (i+1)++q) (by omega);rw[zx,cz,b,zE,tG,hx];simp only[ne_eq,yY,xL];rw[Kk xs (i+1) (n+x.count) q (fun j=>by have:=ha (j+1);rwa [show i+(j+1)=i+1+j from by omega]at this) (fun y c=>hf y (by simp[c])) (by omega)];simp[la.cons,aN,yh]
theorem Kl {t:Ty}:∀(b:List Ty) (s:List It) (m i n:Nat) (q:List UInt8),(∀j (h:j<b.length),t.at (i+j)=b[j])->m<=s.length->s.length<=b.length->(s.length<b.length->q= [])->
 (∀j (c:j<s.length) (d:j<b.length),m<=j->(s[j]).lay (b[j])≠ [])->
 (∀j (c:j<s.length) (d:j<b.length),∀(n:Nat) (q:List UInt8),(n:Int)+(s[j]).count<=M->(b[j]).rd M n ((s[j]).lay (b[j])++q)=⟨0,s[j],n+(s[j]).count,q⟩)->(n:Int)+aN s<=M->
 nX M b m n (cz s t i++q)=⟨0,s,n+aN s,q⟩
 | [],s,m,i,n,q,_,_,hs,_,_,_,_=>by
  obtain rfl:s= []:=zp (by simpa using hs);simp[nX,cz,aN]
 |a::b,[],m,i,n,q,_,hm,_,hq,_,_,_=>by
  have k:m=0:=by simpa using hm
  have o:=hq (by simp);subst k o;simp[nX,cz,aN]
 |a::b,x::xs,m,i,n,q,ha,hm,hs,hq,cn,hf,hM=>by
  simp only[aN]at hM;have e:=ha 0 (by simp);rw[xd]at e;have hx:=hf 0 (by simp) (by simp) n (cz xs t (i+1)++q) (by simp only[yU];omega);simp only[yU]at hx e;rw[cz,e,zE,nX,hx];rw[zh (by
   rintro⟨k,l⟩;have:=cn 0 (by simp) (by simp) (by omega);simp only[yU]at this;exact this (List.append_eq_nil_iff.1 l).1)]
  simp only[ne_eq,yY,xL];rw[Kl b xs (m-1) (i+1) (n+x.count) q (fun j c=>by have:=ha (j+1) (by simpa using c);simpa[show i+(j+1)=i+1+j from by omega]using this) (by simp at hm;omega) (by simpa using hs) (fun h=>hq (by simpa using h))
   (fun j c d h=>by have:=cn (j+1) (by simpa using c) (by simpa using d) (by omega);simpa using this) (fun j c d=>by have:=hf (j+1) (by simpa using c) (by simpa using d);simpa using this) (by omega)]
  simp[la.cons,aN,yh]
theorem Km {l:List Ty}{c:ByteArray}{b:Bool}(h:ow (.mk 1 z l d) c b m=true):b=false/\(c.size:Int)<=z/\gG c.data.toList=false:=by
 simp[ow]at h;exact⟨h.1.1,yj h.1.2,h.2⟩
theorem CR {l:List Ty}{c:ByteArray}{b:Bool}(h:ow (.mk 2 z l d) c b m=true):b=false/\(c.size:Int)=z:=by
 simp[ow]at h;exact⟨h.1,yj h.2⟩
theorem rK {l:List Ty}{c:ByteArray}{b:Bool}(h:ow (.mk 3 z l d) c b m=true):b=false/\(c.size:Int)<=z:=by
 simp[ow]at h;exact⟨h.1,yj h.2⟩
theorem EW {l:List Ty}{c:Int}{d:ByteArray}{b:Bool}(h:ow (.mk 4 z l c) d b m=true):b=true/\(m:Int)<=z:=by
 simp[ow]at h;exact⟨h.1,yj h.2⟩
theorem qf {l:List Ty}{c:Int}{d:ByteArray}{b:Bool}(h:ow (.mk 5 z l c) d b m=true):b=true/\m<=l.length/\(l.length:Int)-c<=m:=by
 simp[ow]at h;exact⟨h.1.1,yj h.1.2,yj h.2⟩
theorem uf (c:ByteArray)(b:Bool)(s:List It)(z:Int)(l:List Ty)(d:Int):(It.mk c b s).lay (.mk 1 z l d)=jF (lI c.data.toList) z.toNat:=rfl
theorem ug (c:ByteArray)(b:Bool)(s:List It)(z:Int)(l:List Ty)(d:Int):(It.mk c b s).lay (.mk 2 z l d)=c.data.toList:=rfl
theorem nY (c:ByteArray)(b:Bool)(s:List It)(z:Int)(l:List Ty)(d:Int):(It.mk c b s).lay (.mk 3 z l d)=dC c.size++c.data.toList:=rfl
theorem qg (d:ByteArray)(b:Bool)(s:List It)(z:Int)(l:List Ty)(c:Int):(It.mk d b s).lay (.mk 4 z l c)=dC s.length++cz s (.mk 4 z l c) 0:=rfl
theorem nn (d:ByteArray)(b:Bool)(s:List It)(z:Int)(l:List Ty)(c:Int):(It.mk d b s).lay (.mk 5 z l c)=cz s (.mk 5 z l c) 0:=rfl
theorem Kn (h:M<=n)(t:Ty)(r:List UInt8):t.rd M n r= .bad 4 n r:=by obtain⟨k,z,l,b⟩:=t;rw[Ty.rd,zi h]
theorem Ik (h:¬M<=n)(z:Int)(l:List Ty)(b:Int)(r:List UInt8):(Ty.mk 1 z l b).rd M n r=if r.length<z.toNat then .bad 2 (n+1) r else⟨0,.mk ⟨(cJ (dh (r.take z.toNat))).toArray⟩ false [],n+1,r.drop z.toNat⟩:=by rw[Ty.rd,zh h];rfl
theorem Il (h:¬M<=n)(z:Int)(l:List Ty)(b:Int)(r:List UInt8):(Ty.mk 2 z l b).rd M n r=if r.length<z.toNat then .bad 2 (n+1) r else⟨0,.mk ⟨(r.take z.toNat).toArray⟩ false [],n+1,r.drop z.toNat⟩:=by rw[Ty.rd,zh h];rfl
theorem vn (h:¬M<=n)(z:Int)(l:List Ty)(b:Int)(r:List UInt8):(Ty.mk 3 z l b).rd M n r=if(aA r).2.2≠0 then .bad (aA r).2.2 (n+1) r else if z<(aA r).1 then .bad 5 (n+1) r
 else if(r.drop (aA r).2.1).length<(aA r).1 then .bad 2 (n+1) (r.drop (aA r).2.1)
 else⟨0,.mk ⟨((r.drop (aA r).2.1).take (aA r).1).toArray⟩ false [],n+1,(r.drop (aA r).2.1).drop (aA r).1⟩:=by rw[Ty.rd,zh h];rfl
theorem CS (h:¬M<=n)(z:Int)(l:List Ty)(b:Int)(r:List UInt8):(Ty.mk 4 z l b).rd M n r=if(aA r).2.2≠0 then .bad (aA r).2.2 (n+1) r else if z<(aA r).1 then .bad 5 (n+1) r
 else(rdF M l (aA r).1 (n+1) (r.drop (aA r).2.1)).list:=by rw[Ty.rd,zh h];rfl
theorem uh (h:¬M<=n)(z:Int)(l:List Ty)(b:Int)(r:List UInt8):(Ty.mk 5 z l b).rd M n r=(nX M l ((l.length:Int)-b).toNat (n+1) r).list:=by rw[Ty.rd,zh h];rfl
theorem lf :∀(s:List It) (t:Ty) (i:Nat),df s t i=true->∀j (h:j<s.length),(s[j]).dr (t.at (i+j))=true
 | [],_,_,_,j,h=>by simp at h
 |x::xs,t,i,hi,0,h=>by simp only[df,zy]at hi;simpa using hi.1
 |x::xs,t,i,hi,j+1,h=>by
  simp only[df,zy]at hi;have:=lf xs t (i+1) hi.2 j (by simpa using h);rw[show i+(j+1)=i+1+j from by omega];simpa using this
theorem EX {s:List Ty}(h:ch s=true):∀k (b:k<s.length),(s[k]).full=true:=by
 induction s with
 |nil=>intro k b;simp at b
 |cons x xs ih=>
  simp only[ch,zy]at h;intro k b;cases k with
  |zero=>exact h.1
  |succ k=>exact ih h.2 k (by simpa using b)
theorem Pn (M:Int)(hM:M<=1024)(x:It):∀(t:Ty) (n:Nat) (q:List UInt8),t.right=true->ch t.sub=true->Pm t x q->x.dr t=true->x.right=true->(n:Int)+x.count<=M->
 t.rd M n (x.lay t++q)=⟨0,x,n+x.count,q⟩:=by
 induction x using It.ind with
 |h tx b s ih=>
  intro t n q Z E Ba hi hx K;obtain⟨k,z,l,d⟩:=t;obtain⟨bG,Y⟩:=jL Z;obtain⟨m,ad⟩:=mZ hx;have R:=vm ad;have o:¬M<=(n:Int):=by simp only[It.count]at K;omega
  simp only[It.dr,zy]at hi;obtain⟨c,ea⟩:=hi;have B:=lf s _ 0 ea;simp only[zQ]at B;simp only[Ty.gS]at E;rcases lM bG with⟨rfl,hs,y,J⟩|⟨rfl,O,C,y,J⟩|⟨rfl,O,C,y,J⟩|⟨rfl,O,C,y,J⟩|⟨rfl,O,C,h5,h6⟩
  ·replace c:=Km c;obtain⟨rfl,hz,Gh⟩:=c;have p:s= []:=by simpa[formed]using m
   subst p;have U:=uG tx.data.toList;rw[aa]at U;have N:tx.size<=z.toNat:=by omega
   have Gi:lI tx.data.toList<2^(8*z.toNat):=zU U (yu (by omega) (by omega));rw[uf,Ik o];rw[zh (by rw[zl,bd];omega),ZC (bd _ _),ZE (bd _ _),Pb _ _ Gi,WE _ Gh,iP];simp[It.count,aN]
  ·replace c:=CR c;obtain⟨rfl,hz⟩:=c;have p:s= []:=by simpa[formed]using m
   subst p;have N:tx.data.toList.length=z.toNat:=by rw[aa];omega
   rw[ug,Il o];rw[zh (by rw[zl];omega),ZC N,ZE N,iP];simp[It.count,aN]
  ·replace c:=rK c;obtain⟨rfl,hz⟩:=c;have p:s= []:=by simpa[formed]using m
   subst p;have G:=vl tx.size (tx.data.toList++q) (by omega);have I:(dC tx.size++(tx.data.toList++q)).drop (dC tx.size).length=tx.data.toList++q:=ZE rfl;rw[nY,zE,vn o];rw[G];simp only[I];rw[zh (by simp),zh (by omega),zh (by rw[zl,aa];omega),ZC (aa tx),ZE (aa tx),iP];simp[It.count,aN]
  ·replace c:=EW c;obtain⟨rfl,hz⟩:=c;have L:tx=⟨#[]⟩:=by
    have:tx.size=0:=by simpa[formed]using m
    exact aM (by simp[zp ((aa tx).trans this)])
   subst L;obtain⟨a,rfl⟩:=Yd.1 y;have r:∀j,(Ty.mk 4 z [a] d).at j=a:=fun j=>by unfold Ty.at;simp
   have H:a.right=true:=by simpa[bR]using Y
   have u:a.full=true:=by simpa[ch]using E
   have G:=vl s.length (cz s (.mk 4 z [a] d) 0++q) (by omega);have I:(dC s.length++(cz s (.mk 4 z [a] d) 0++q)).drop (dC s.length).length=cz s (.mk 4 z [a] d) 0++q:=ZE rfl;simp only[It.count]at K;have A:=Kk (M:=M) (a:=a) (t:= .mk 4 z [a] d) (f:=fun n ab=>a.rd M n ab) s 0 (n+1) q (fun j=>r _) (fun x i n q F=>by
    obtain⟨j,w,rfl⟩:=y7 i;have e:=B j w;rw[r]at e;obtain⟨ak,az,al,at_⟩:=a;exact ih _ i _ n q H (lP u).2 (nk u e q) e (R _ i) F) (by omega)
   rw[qg,zE,CS o];rw[G];simp only[I,rdF];rw[zh (by simp),zh (by omega),A];simp[la.list,It.count,yh]
  replace c:=qf c;obtain⟨rfl,cr,cE⟩:=c;have L:tx=⟨#[]⟩:=by
   have:tx.size=0:=by simpa[formed]using m
   exact aM (by simp[zp ((aa tx).trans this)])
  subst L;have r:∀j (h:j<l.length),(Ty.mk 5 z l d).at (0+j)=l[j]:=fun j h=>by unfold Ty.at;simp[h]
  obtain⟨W,S⟩:=Ba rfl;simp only[It.gS,Ty.gS,Ty.CH]at W S;simp only[It.count]at K;have A:=Kl (M:=M) (t:= .mk 5 z l d) l s ((l.length:Int)-d).toNat 0 (n+1) q r (by omega) cr W S (fun j w D n q F=>by
   have i:=zR w;have e:=B j w;have X:=r j D;rw[zQ]at X;rw[X]at e;have u:=EX E j D;have H:=dT Y j D;generalize l[j]=a at*;obtain⟨ak,az,al,at_⟩:=a;exact ih _ i _ n q H (lP u).2 (nk u e q) e (R _ i) F) (by omega)
  rw[nn,uh o];rw[A];simp[la.list,It.count,yh]
structure Tv (M:Int)(t:Ty)(n:Nat)(r:List UInt8)(R:SL):Prop where
 dr:R.x.dr t=true
 right:R.x.right=true
 num:R.n=n+R.x.count
 many:(R.n:Int)<=M
 lay:r=R.x.lay t++R.q
 deep:R.x.deep<=t.deep
structure Vf (M:Int)(t:Ty)(i n:Nat)(r:List UInt8)(R:la):Prop where
 dr:df R.xs t i=true
 right:dq R.xs=true
 num:R.n=n+aN R.xs
 many:(R.n:Int)<=M
 lay:r=cz R.xs t i++R.q
theorem EY {a t:Ty}{f:Nat->List UInt8->SL}(l:∀n r,(f n r).e=0->Tv M a n r (f n r)):∀(c i n:Nat) (r:List UInt8),(∀j,t.at (i+j)=a)->(n:Int)<=M->(tG f c n r).e=0->
 Vf M t i n r (tG f c n r)/\(tG f c n r).xs.length=c/\cK (tG f c n r).xs<=a.deep
 |0,i,n,r,_,hM,_=>⟨⟨rfl,rfl,by simp[tG,aN],hM,by simp[tG,cz]⟩,rfl,by simp[tG,cK]⟩
 |c+1,i,n,r,ha,hM,h=>by
  rw[tG]at h⊢;by_cases e:(f n r).e=0
  ·rw[zh (by simp[e])]at h⊢;have b:=l n r e;obtain⟨d,m,o⟩:=EY l c (i+1) (f n r).n (f n r).q (fun j=>by have:=ha (j+1);rwa [show i+(j+1)=i+1+j from by omega]at this) b.many h;have k:=ha 0;rw[xd]at k;refine⟨⟨?_, ?_, ?_,d.many, ?_⟩,by simp[la.cons,m], ?_⟩
   ·simp only[la.cons,df,k,b.dr,d.dr,Bool.and_self]
   ·simp only[la.cons,dq,b.right,d.right,Bool.and_self]
   ·have p:=d.num;have q:=b.num;simp only[la.cons,aN];omega
   ·simp only[la.cons,cz,k,zE];rw[<-d.lay];exact b.lay
   simp only[la.cons,cK];have:=b.deep;omega
  rw[zi (by simpa using e)]at h;exact absurd h e
theorem EZ {t:Ty}:∀(c:List Ty) (m i n:Nat) (r:List UInt8),(∀j (h:j<c.length),t.at (i+j)=c[j])->(∀a∈c,∀n r,(a.rd M n r).e=0->Tv M a n r (a.rd M n r))->(n:Int)<=M->m<=c.length->(nX M c m n r).e=0->
 Vf M t i n r (nX M c m n r)/\m<=(nX M c m n r).xs.length/\(nX M c m n r).xs.length<=c.length/\cK (nX M c m n r).xs<=dJ c
 | [],m,i,n,r,_,_,hM,hm,_=>⟨⟨rfl,rfl,by simp[nX,aN],hM,by simp[nX,cz]⟩,by simpa[nX]using hm,by simp[nX],by simp[nX,cK]⟩
 |a::c,m,i,n,r,ha,hf,hM,hm,h=>by
  rw[nX]at h⊢;by_cases hz:m=0/\r= []
  ·rw[zi hz];obtain⟨rfl,rfl⟩:=hz;exact⟨⟨rfl,rfl,by simp[aN],hM,by simp[cz]⟩,by simp,by simp,by simp[cK]⟩
  rw[zh hz]at h⊢;by_cases k:(a.rd M n r).e=0
  ·rw[zh (by simp[k])]at h⊢;have d:=hf a (by simp) n r k;obtain⟨e,w,x,q⟩:=EZ c (m-1) (i+1) (a.rd M n r).n (a.rd M n r).q (fun j o=>by have:=ha (j+1) (by simpa using o);simpa[show i+(j+1)=i+1+j from by omega]using this) (fun b p=>hf b (by simp[p])) d.many (by simp at hm;omega) h;have l:=ha 0 (by simp);simp only[xd,yU]at l;refine⟨⟨?_, ?_, ?_,e.many, ?_⟩,by simp only[la.cons,zx];omega,by simp only[la.cons,zx];omega, ?_⟩
   ·simp only[la.cons,df,l,d.dr,e.dr,Bool.and_self]
   ·simp only[la.cons,dq,d.right,e.right,Bool.and_self]
   ·have s:=e.num;have u:=d.num;simp only[la.cons,aN];omega
   ·simp only[la.cons,cz,l,zE];rw[<-e.lay];exact d.lay
   simp only[la.cons,cK,dJ];have:=d.deep;omega
  rw[zi (by simpa using k)]at h;exact absurd h k
theorem Tw {l:List Ty}{c:Int}{b:ByteArray}(d:(b.size:Int)<=z)(e:gG b.data.toList=false):ow (.mk 1 z l c) b false m=true:=by
 show(!false&&decide ((b.size:Int)<=z)&& !gG b.data.toList)=true
 rw[e,zD d];rfl
theorem Tx {l:List Ty}{c:Int}{b:ByteArray}(d:(b.size:Int)=z):ow (.mk 2 z l c) b false m=true:=by
 show(!false&&decide ((b.size:Int)=z))=true
 rw[zD d];rfl
theorem Mm {l:List Ty}{c:Int}{b:ByteArray}(d:(b.size:Int)<=z):ow (.mk 3 z l c) b false m=true:=by
 show(!false&&decide ((b.size:Int)<=z))=true
 rw[zD d];rfl
theorem Po {l:List Ty}{b:Int}{d:ByteArray}(c:(m:Int)<=z):ow (.mk 4 z l b) d true m=true:=by
 show(true&&decide ((m:Int)<=z))=true
 rw[zD c];rfl
theorem Pp {l:List Ty}{b:Int}{c:ByteArray}(d:m<=l.length)(e:(l.length:Int)-b<=m):ow (.mk 5 z l b) c true m=true:=by
 show(true&&decide (m<=l.length)&&decide ((l.length:Int)-b<=m))=true
 rw[zD d,zD e];rfl
theorem Im (n:Nat):gG (cJ n)=false:=by
 by_cases h:n=0
 ·subst h;rw[dy];rfl
 cases hl:cJ n with
 |nil=>rfl
 |cons b t=>
  have h1:=BV n h;rw[hl]at h1;show(b==0)=false
  exact zo.2 (by simpa using h1)
theorem Mn (M:Int)(I:M<=1024)(t:Ty):∀(n:Nat) (r:List UInt8),t.right=true->(t.rd M n r).e=0->Tv M t n r (t.rd M n r):=by
 induction t using Ty.ind with
 |h k z l ta ih=>
  intro n r A h;obtain⟨H,y⟩:=jL A;by_cases d:M<=(n:Int)
  ·rw[Kn d]at h;cases h
  rcases lM H with⟨rfl,K,m,s⟩|⟨rfl,u,o,m,s⟩|⟨rfl,u,o,m,s⟩|⟨rfl,u,o,m,s⟩|⟨rfl,u,o,N,J⟩
  ·rw[Ik d]at h⊢;by_cases c:r.length<z.toNat
   ·rw[zi c]at h;cases h
   rw[zh c];have w:=jK (r.take z.toNat);have i:(r.take z.toNat).length=z.toNat:=by rw[zV];omega
   rw[i]at w;have L:=iU z.toNat _ w;refine⟨?_,rfl,by simp[It.count,aN],by simp only;omega, ?_, ?_⟩
   ·simp only[It.dr,df,Zg];exact Tw (by rw[bP];omega) (by simpa using Im _)
   ·rw[uf];simp only;have e:=Pc (r.take z.toNat);rw[i]at e;rw[Kh,e,zI]
   simp[It.deep,cK,Ty.deep]
  ·rw[Il d]at h⊢;by_cases c:r.length<z.toNat
   ·rw[zi c]at h;cases h
   rw[zh c];have i:(r.take z.toNat).length=z.toNat:=by rw[zV];omega
   refine⟨?_,rfl,by simp[It.count,aN],by simp only;omega, ?_, ?_⟩
   ·simp only[It.dr,df,Zg];exact Tx (by rw[bP];omega)
   ·rw[ug];simp only;rw[zI]
   simp[It.deep,cK,Ty.deep]
  ·rw[vn d]at h⊢;by_cases b:(aA r).2.2≠0
   ·rw[zi b]at h;exact absurd h b
   rw[zh b]at h⊢;by_cases hz:z<((aA r).1:Int)
   ·rw[zi hz]at h;cases h
   rw[zh hz]at h⊢;by_cases c:(r.drop (aA r).2.1).length<(aA r).1
   ·rw[zi c]at h;cases h
   rw[zh c];obtain⟨E,B,p,F⟩:=iW r (aA r).1 (aA r).2.1 (by rw[<-zC.1 b]);generalize aA r=C at*;have i:((r.drop C.2.1).take C.1).length=C.1:=by rw[zV];omega
   refine⟨?_,rfl,by simp[It.count,aN],by simp only;omega, ?_, ?_⟩
   ·simp only[It.dr,df,Zg];exact Mm (by rw[bP];omega)
   ·rw[nY];simp only;rw[show(⟨((r.drop C.2.1).take C.1).toArray⟩:ByteArray).size=C.1 from by rw[bP,i],<-p,zE,zI,zI]
   simp[It.deep,cK,Ty.deep]
  ·rw[CS d]at h⊢;by_cases b:(aA r).2.2≠0
   ·rw[zi b]at h;exact absurd h b
   rw[zh b]at h⊢;by_cases hz:z<((aA r).1:Int)
   ·rw[zi hz]at h;cases h
   rw[zh hz]at h⊢;obtain⟨E,B,p,F⟩:=iW r (aA r).1 (aA r).2.1 (by rw[<-zC.1 b]);generalize aA r=C at*;obtain⟨a,rfl⟩:=Yd.1 m;have q:∀j,(Ty.mk 4 z [a] ta).at j=a:=fun j=>by unfold Ty.at;simp
   have G:a.right=true:=by simpa[bR]using y
   simp only[rdF,la.list]at h⊢;obtain⟨g1,g2,g3⟩:=EY (M:=M) (a:=a) (t:= .mk 4 z [a] ta) (fun n r h=>ih a (by simp) n r G h) C.1 0 (n+1) (r.drop C.2.1) (fun j=>q _) (by omega) h;generalize tG (fun n r=>a.rd M n r) C.1 (n+1) (r.drop C.2.1)=R at*;refine⟨?_, ?_, ?_,g1.many, ?_, ?_⟩
   ·simp only[It.dr,g1.dr,Zg];exact Po (by rw[g2];omega)
   ·simp[It.right,g1.right,formed,ByteArray.size]
   ·simp only[It.count,g1.num];omega
   ·rw[qg,zE,<-g1.lay,g2,<-p,zI]
   simp only[It.deep,Ty.deep,dJ];omega
  rw[uh d]at h⊢;have q:∀j (h:j<l.length),(Ty.mk 5 z l ta).at (0+j)=l[j]:=fun j h=>by unfold Ty.at;simp[h]
  simp only[la.list]at h⊢;obtain⟨g1,g2,g3,g4⟩:=EZ (M:=M) (t:= .mk 5 z l ta) l ((l.length:Int)-ta).toNat 0 (n+1) r q (fun a x n r h=>by
   obtain⟨j,D,rfl⟩:=y7 x;exact ih _ x n r (dT y j D) h) (by omega) (by omega) h
  generalize nX M l ((l.length:Int)-ta).toNat (n+1) r=R at*;refine⟨?_, ?_, ?_,g1.many, ?_, ?_⟩
  ·simp only[It.dr,g1.dr,Zg];exact Pp g3 (by omega)
  ·simp[It.right,g1.right,formed,ByteArray.size]
  ·simp only[It.count,g1.num];omega
  ·rw[nn];exact g1.lay
  simp only[It.deep,Ty.deep];omega
def jO (t:Ty)(x:It)(M:Int):Int:=if t.flat=false then 1 else if eO t x≠0 then eO t x else if M<x.count then 4 else 0
def oJ (t:Ty)(x:It)(M:Int):ByteArray×Int:=if jO t x M=0 then(⟨(x.lay t).toArray⟩,0)else(⟨#[]⟩,jO t x M)
def ox (t:Ty)(s:ByteArray)(M:Int):SL:=t.rd (min M 1024) 0 s.data.toList
def dt (t:Ty)(s:ByteArray)(M:Int):Int×It×Nat:=if t.flat=false then(1,ju,0)else if(ox t s M).e≠0 then((ox t s M).e,ju,0)else(0,(ox t s M).x,s.size-(ox t s M).q.length)
def jP (t:Ty)(s:ByteArray)(M:Int):Int×It:=if(dt t s M).1≠0 then((dt t s M).1,ju)else if(dt t s M).2.2<s.size then(3,ju)else(0,(dt t s M).2.1)
mutual
def Ty.low :Ty->Int
 | .mk k z l _=>if k=1\/k=2 then z else if k=3\/k=4 then 1 else abI l
def abI :List Ty->Int
 | []=>0
 |x::xs=>x.low+abI xs
end
theorem lQ {t:Ty}(h:t.flat=true):t.may=true/\t.right=true/\t.count<=64/\t.deep<=8/\ch t.sub=true:=by
 simp only[Ty.flat,zy]at h;obtain⟨b,c,d⟩:=O7 h.1;exact⟨h.1,d,b,c,h.2⟩
theorem BX {t:Ty}{x:It}(h:eO t x=0):t.may=true/\x.may=true/\x.dr t=true:=by
 unfold eO at h;cases h1:t.may<;>cases h2:x.may<;>cases h3:x.dr t<;>simp_all
theorem WG {t:Ty}{x:It}(b:t.may=true)(c:x.may=true)(d:x.dr t=true):eO t x=0:=by
 unfold eO;simp[b,c,d]
theorem sY {x:It}(h:x.may=true):x.right=true/\x.deep<=16/\x.count<=1024:=by
 simpa only[It.may,zy,yb,and_assoc]using h
theorem Pq {x:It}(b:x.right=true)(c:x.deep<=16)(d:x.count<=1024):x.may=true:=by
 simp only[It.may,zy,yb];exact⟨⟨b,c⟩,d⟩
theorem Mo {t:Ty}{x:It}(h:jO t x M=0):t.flat=true/\eO t x=0/\(x.count:Int)<=M:=by
 unfold jO at h;cases h1:t.flat with
 |false=>rw[zi h1]at h;cases h
 |true=>
  rw[zh (by simp[h1])]at h;by_cases b:eO t x≠0
  ·rw[zi b]at h;exact absurd h b
  rw[zh b]at h;by_cases c:M<x.count
  ·rw[zi c]at h;cases h
  exact⟨rfl,zC.1 b,by omega⟩
theorem E3 (t:Ty)(s:ByteArray)(M:Int)(h:(dt t s M).1=0):jO t (dt t s M).2.1 M=0/\(dt t s M).2.2<=s.size/\(dt t s M).2.1.lay t=s.data.toList.take (dt t s M).2.2:=by
 unfold dt at h⊢;cases h1:t.flat with
 |false=>rw[zi h1]at h;cases h
 |true=>
  rw[zh (by simp[h1])]at h⊢;by_cases c:(ox t s M).e≠0
  ·rw[zi c]at h;exact absurd h c
  rw[zh c];obtain⟨e,i,l,m,k⟩:=lQ h1;have b:=Mn (min M 1024) (by omega) t 0 s.data.toList i (zC.1 c);change Tv (min M 1024) t 0 s.data.toList (ox t s M)at b
  generalize ox t s M=R at*;have d:=xo List.length b.lay;rw[zl,aa]at d;have j:=b.many;have n:=b.num;have hd:=b.deep;refine⟨?_,by simp only;omega, ?_⟩
  ·unfold jO;simp only;rw[zh (by simp[h1]),WG e (Pq b.right (by omega) (by omega)) b.dr,zh (by simp),zh (by omega)]
  simp only;rw[b.lay,show s.size-R.q.length=(R.x.lay t).length from by omega,ZC rfl]
theorem Io (t:Ty)(s:ByteArray)(M:Int)(h:(jP t s M).1=0):jO t (jP t s M).2 M=0/\(jP t s M).2.lay t=s.data.toList:=by
 unfold jP at h⊢;by_cases b:(dt t s M).1≠0
 ·rw[zi b]at h;exact absurd h b
 rw[zh b]at h⊢;by_cases c:(dt t s M).2.2<s.size
 ·rw[zi c]at h;cases h
 rw[zh c];obtain⟨d,a2,a3⟩:=E3 t s M (zC.1 b);refine⟨d, ?_⟩;rw[a3,zz (by rw[aa];omega)]
def gW (xs:List It):It:= .mk ByteArray.empty true xs
def fin (D M:Int)(s:ByteArray):List It->Nat->List (List It×Nat)->Nat->Nat->Rd
 |acc,en,[],at_,count=>
  if(cV D M (s.extract at_ en) 2 count).e≠0 then Rd.bad (cV D M (s.extract at_ en) 2 count).e
  else⟨gW (acc++(cV D M (s.extract at_ en) 2 count).xs),en,count+(cV D M (s.extract at_ en) 2 count).items,0⟩
 |acc,en,f::rest,at_,count=>
  if(cV D M (s.extract at_ en) (rest.length+3) count).e≠0 then Rd.bad (cV D M (s.extract at_ en) (rest.length+3) count).e
  else fin D M s (f.1++ [gW (acc++(cV D M (s.extract at_ en) (rest.length+3) count).xs)]) f.2 rest en (count+(cV D M (s.extract at_ en) (rest.length+3) count).items)
def Mp (D M:Int)(s:ByteArray)(acc:List It)(en:Nat)(rest:List (List It×Nat))(count:Nat)(R:Kj):Rd:=
 if R.e≠0 then Rd.bad R.e
 else match rest with
  | []=>⟨gW (acc++R.xs),en,count+R.items,0⟩
  |f::rest=>fin D M s (f.1++ [gW (acc++R.xs)]) f.2 rest en (count+R.items)
theorem vo (D M:Int)(s:ByteArray)(acc:List It)(b:Nat)(rest:List (List It×Nat))(at_ count:Nat):fin D M s acc b rest at_ count=Mp D M s acc b rest count (cV D M (s.extract at_ b) (rest.length+2) count):=by
 cases rest with
 |nil=>rw[fin];rfl
 |cons f rest=>rw[fin];rfl
theorem CT (s:ByteArray)(a b i j:Nat)(c:a+j<=b):(s.extract a b).extract i j=s.extract (a+i) (a+j):=by
 apply aM;rw[ar,ar,ar,List.take_drop,xN,xu,yF (by omega)]
theorem BY (D M:Int)(s:ByteArray)(acc:List It)(c:Nat)(rest:List (List It×Nat))(count k:Nat)(x:It)(R R':Kj)(h:R=(if R'.e≠0 then Kj.bad R'.e else⟨x::R'.xs,k+R'.items,0⟩)):
 Mp D M s acc c rest count R=Mp D M s (acc++ [x]) c rest (count+k) R':=by
 subst h;unfold Mp;by_cases b:R'.e≠0
 ·rw[zi b,zi b,zi (by exact b)];rfl
 rw[zh b,zh b,zh (by simp)];cases rest with
 |nil=>simp[yh]
 |cons f rest=>simp[yh]
theorem Mq (D M:Int):∀(z:Nat) (s:ByteArray) (deep ahead:Nat),s.size<=z->(cV D M s deep ahead).e≠2:=by
 intro z;induction z with
 |zero=>intro s deep ahead h;rw[jG _ _ _ _ _ (by omega)];simp
 |succ z ih=>
  intro s deep ahead h;by_cases d:s.size=0
  ·rw[jG _ _ _ _ _ d];simp
  rw[iy D M s deep ahead d _ rfl];have b:=ni D M (2*s.size+2) s deep ahead;change(bu D M s deep ahead).e=0->1<=(bu D M s deep ahead).size/\(bu D M s deep ahead).size<=s.size at b
  generalize bu D M s deep ahead=R at*;by_cases c:R.e≠0
  ·rw[zi c];show within R.e≠2
   unfold within;split<;>omega
  rw[zh c];have b:=b (zC.1 c);have i:(s.extract R.size s.size).size=s.size-R.size:=an _ _ _ (zg _);have e:=ih (s.extract R.size s.size) deep (ahead+R.items) (by omega);split
  ·exact e
  simp
theorem Tz (D M:Int)(s:ByteArray)(acc:List It)(b:Nat)(rest:List (List It×Nat))(at_ count:Nat)(i:at_<b)(h:b<=s.size)(H:Bool×Nat×Nat×Int)
 (d:hd (s.extract at_ b) (aG D (rest.length+2)) (aH M count)=H) (c:H.2.2.2≠0):fin D M s acc b rest at_ count=Rd.bad (within H.2.2.2):=by
 have hz:(s.extract at_ b).size=b-at_:=an _ _ _ h;have e:within H.2.2.2≠0:=by unfold within;split<;>simp_all
 rw[vo,iy D M _ _ _ (by omega) _ rfl,dW D M _ _ _ H d,zi c,zi (show(Rd.bad H.2.2.2).e≠0 from c)];unfold Mp;rw[zi (show(Kj.bad (within (Rd.bad H.2.2.2).e)).e≠0 from e)];rfl
theorem Pr (D M:Int)(s:ByteArray)(acc:List It)(b:Nat)(rest:List (List It×Nat))(at_ count:Nat)(k:at_<b)(j:b<=s.size)(H:Bool×Nat×Nat×Int)
 (d:hd (s.extract at_ b) (aG D (rest.length+2)) (aH M count)=H) (e:H.2.2.2=0) (i:H.1=false):
 fin D M s acc b rest at_ count=fin D M s (acc++ [.mk (s.extract (at_+H.2.1) (at_+H.2.1+H.2.2.1)) false []]) b rest (at_+H.2.1+H.2.2.1) (count+1)/\at_+H.2.1+H.2.2.1<=b:=by
 have hz:(s.extract at_ b).size=b-at_:=an _ _ _ j;have c:=sW (s.extract at_ b) (aG D (rest.length+2)) (aH M count);rw[d]at c;have c:=c e;refine⟨?_,by omega⟩;have h:bu D M (s.extract at_ b) (rest.length+2) count=⟨.mk ((s.extract at_ b).extract H.2.1 (H.2.1+H.2.2.1)) false [],H.2.1+H.2.2.1,1,0⟩:=by
  rw[dW D M _ _ _ H d,zh (show¬H.2.2.2≠0 by simp[e]),zi i]
 rw[vo,vo];refine BY D M s acc b rest count 1 _ _ _ ?_;rw[iy D M _ _ _ (by omega) _ h];dsimp only;rw[zh (by simp),hz,CT s at_ b _ _ (by omega),CT s at_ b _ _ (by omega),show at_+(b-at_)=b from by omega,yh]
theorem Ps (D M:Int)(s:ByteArray)(acc:List It)(b:Nat)(rest:List (List It×Nat))(at_ count:Nat)(o:at_<b)(m:b<=s.size)(H:Bool×Nat×Nat×Int)
 (i:hd (s.extract at_ b) (aG D (rest.length+2)) (aH M count)=H) (j:H.2.2.2=0) (h:H.1=true):
 fin D M s acc b rest at_ count=fin D M s [] (at_+H.2.1+H.2.2.1) ((acc,b)::rest) (at_+H.2.1) (count+1)/\at_+H.2.1+H.2.2.1<=b/\1<=H.2.1:=by
 have hz:(s.extract at_ b).size=b-at_:=an _ _ _ m;have d:=sW (s.extract at_ b) (aG D (rest.length+2)) (aH M count);rw[i]at d;have d:=d j;refine⟨?_,by omega,d.2.2.2 h⟩;have e:=dW D M (s.extract at_ b) (rest.length+2) count H i;rw[zh (show¬H.2.2.2≠0 by simp[j]),zh (show¬H.1=false by simp[h]),CT s at_ b _ _ (by omega),<-yh,show rest.length+2+1=rest.length+3 from by omega]at e;rw[vo,iy D M _ _ _ (by omega) _ e,fin];have n:=Mq D M (s.extract (at_+H.2.1) (at_+H.2.1+H.2.2.1)).size (s.extract (at_+H.2.1) (at_+H.2.1+H.2.2.1)) (rest.length+3) (count+1) (zg _);generalize cV D M (s.extract (at_+H.2.1) (at_+H.2.1+H.2.2.1)) (rest.length+3) (count+1)=R at*;by_cases c:R.e≠0
 ·have l:within R.e≠0:=by unfold within;split<;>simp_all
  have k:within R.e=R.e:=by unfold within;rw[zh n]
  rw[zi c,zi (show(Rd.bad R.e).e≠0 from c)];unfold Mp;rw[zi (show(Kj.bad (within (Rd.bad R.e).e)).e≠0 from l)];show Rd.bad (within R.e)=_
  rw[k,zi c]
 rw[zh c];dsimp only;rw[zh (by simp),vo,hz,CT s at_ b _ _ (by omega),show at_+(b-at_)=b from by omega,<-yh];refine(BY D M s acc b rest count (1+R.items) (gW R.xs) _ _ rfl).trans ?_;rw[zh c];simp[gW,yh]
theorem Mr (D M:Int)(s:ByteArray)(acc:List It)(b:Nat)(f:List It×Nat)(rest:List (List It×Nat))(count:Nat)(c:b<=s.size):fin D M s acc b (f::rest) b count=fin D M s (f.1++ [gW acc]) f.2 rest b count:=by
 rw[fin,jG _ _ _ _ _ (by rw[an _ _ _ c];omega)];simp
theorem Pt (D M:Int)(s:ByteArray)(acc:List It)(b:Nat)(count:Nat)(c:b<=s.size):fin D M s acc b [] b count=⟨gW acc,b,count,0⟩:=by
 rw[fin,jG _ _ _ _ _ (by rw[an _ _ _ c];omega)];simp
theorem rL (D M:Int)(s:ByteArray)(H:Bool×Nat×Nat×Int)(c:hd s (aG D 1) (aH M 0)=H):
 (H.2.2.2≠0->bu D M s 1 0=Rd.bad H.2.2.2)/\(H.2.2.2=0->H.1=false->bu D M s 1 0=⟨.mk (s.extract H.2.1 (H.2.1+H.2.2.1)) false [],H.2.1+H.2.2.1,1,0⟩)/\
 (H.2.2.2=0->H.1=true->bu D M s 1 0=fin D M s [] (H.2.1+H.2.2.1) [] H.2.1 1):=by
 refine⟨fun h=> ?_,fun h b=> ?_,fun h b=> ?_⟩
 ·rw[dW D M s 1 0 H c,zi h]
 ·rw[dW D M s 1 0 H c,zh (by simp[h]),zi b]
 rw[dW D M s 1 0 H c,zh (by simp[h]),zh (by simp[b]),fin];simp only[zQ];split
 ·rfl
 simp[gW]
theorem fF (b n:Nat):(cM b n).length=if n<=55 then 1 else 1+(cJ n).length:=by unfold cM;split<;>simp;omega
theorem E4 (s:ByteArray)(b n:Nat)(r:List UInt8)(y:b=128\/b=192)(c:s.data.toList=cM b n++r)(A:n<=r.length)(l:n<18446744073709551616)(p:b=128->n=1->128<=(r.getD 0 0).toNat):
 AG s=(decide (b=192),(cM b n).length,n,0):=by
 have hz:s.size=(cM b n).length+r.length:=by rw[<-aa,c,zl]
 rw[fF]at hz⊢;by_cases h:n<=55
 ·rw[zi h]at hz⊢;rw[cM,zi h]at c;have i:(s.data.toList.getD 0 0).toNat=b+n:=by rw[c,Zr,ZH,bo _ (by omega)]
  have j:s.data.toList.getD 1 0=r.getD 0 0:=by rw[c,Zr,List.getD_cons_succ]
  unfold AG;rw[i,j];dsimp only;have k:(if 192<=b+n then b+n-192 else b+n-128)=n:=by split<;>omega
  have d:decide (192<=b+n)=decide (b=192):=by rw[yT];simp;omega
  rw[zh (by omega),k,d];simp only[zi h];rw[zh (by omega),zh];rintro⟨q,a2,a3⟩;have a4:b=128:=by
   have:b≠192:=by simpa using q
   omega
  have:=p a4 a2;omega
 rw[zh h]at hz⊢;rw[cM,zh h]at c;have z:=iU 8 n (by simpa using l);have w:1<=(cJ n).length:=by
  have:=Ki n (by omega);cases hl:cJ n with
  |nil=>exact absurd hl this
  |cons a b=>simp
 have m:=BV n (by omega);have i:(s.data.toList.getD 0 0).toNat=b+55+(cJ n).length:=by rw[c,ya,ZH,bo _ (by omega)]
 have j:s.data.toList.getD 1 0=(cJ n).getD 0 0:=by
  rw[c,ya,List.getD_cons_succ,zw,xB (by omega),<-zw]
 have u:(s.extract 1 (1+(cJ n).length)).data.toList=cJ n:=by
  rw[ar,c,ya,Zn 1,zT,yf,zL,zZ (zg _),Z4]
 have x:((cJ n).getD 0 0).toNat≠0:=fun e=>m (zS.1 e)
 unfold AG;rw[i,j];dsimp only;have k:(if 192<=b+55+(cJ n).length then b+55+(cJ n).length-192 else b+55+(cJ n).length-128)=55+(cJ n).length:=by split<;>omega
 have d:decide (192<=b+55+(cJ n).length)=decide (b=192):=by rw[yT];simp;omega
 rw[zh (by omega),k,d];have o:¬55+(cJ n).length<=55:=by omega
 simp only[zh o,Nat.add_sub_cancel_left,u,Kh];rw[zh (by omega),zh (by omega),zh (by omega)]
theorem WH (s:ByteArray)(w:0<s.size)(H:Bool×Nat×Nat×Int)(x:AG s=H)(c:H.2.2.2=0):
 (H=(false,0,1,0)/\(s.data.toList.getD 0 0).toNat<128)\/
 (s.data.toList.take H.2.1=cM (if H.1=true then 192 else 128) H.2.2.1/\1<=H.2.1/\H.2.1=(cM (if H.1=true then 192 else 128) H.2.2.1).length/\¬(H.1=false/\H.2.2.1=1/\(s.data.toList.getD H.2.1 0).toNat<128)):=by
 subst x;have o:s.data.toList=s.data.toList.getD 0 0::s.data.toList.drop 1:=by
  have:=drop_cons s 0 w;rw[zL]at this;rw[this];simp
 unfold AG at c⊢;dsimp only at c⊢;have u:=(s.data.toList.getD 0 0).toNat_lt;have p:ub (((s.data.toList.getD 0 0).toNat:Nat):Int)=s.data.toList.getD 0 0:=by
  apply zS.1;rw[bo _ u]
 generalize D:(s.data.toList.getD 0 0).toNat=b at*;by_cases l:b<128
 ·rw[zi l];exact .inl ⟨rfl,l⟩
 rw[zh l]at c⊢;right;generalize q:(if 192<=b then b-192 else b-128)=d at*;have y:(if decide (192<=b)=true then 192 else 128)+d=b:=by
  rw[<-q];by_cases h:192<=b<;>simp[h];omega
 have C:d<=63:=by rw[<-q];split<;>omega
 by_cases j:d<=55
 ·simp only[zi j]at c⊢;by_cases i:s.size<1+d
  ·rw[zi i]at c;simp at c
  rw[zh i]at c⊢;split at c
  ·simp at c
  rename_i k
  rw[zh k];dsimp only;refine⟨?_,zg _, ?_,k⟩
  ·rw[o,zT,yC,cM,zi j,y,p]
  rw[fF,zi j]
 simp only[zh j]at c⊢;by_cases i:s.size<1+(d-55)
 ·rw[zi i]at c;simp at c
 rw[zh i]at c⊢;split at c
 ·simp at c
 rename_i k
 rw[zh k];split at c
 ·simp at c
 rename_i B
 rw[zh B];dsimp only;have A:(s.data.toList.getD 1 0).toNat≠0:=by omega
 have z:(s.extract 1 (1+(d-55))).data.toList=(s.data.toList.drop 1).take (d-55):=by rw[ar,List.take_drop]
 have m:((s.data.toList.drop 1).take (d-55)).length=d-55:=by rw[zV,zK,aa];omega
 have r:cJ (lI (s.extract 1 (1+(d-55))).data.toList)=(s.data.toList.drop 1).take (d-55):=by
  rw[z];refine ET _ ?_;rw[zw,yO (by omega),xx,<-zw];intro e;apply A;rw[show 1+0=1 from rfl]at e;rw[e];rfl
 generalize lI (s.extract 1 (1+(d-55))).data.toList=n at*;refine⟨?_,by omega, ?_, ?_⟩
 ·rw[cM,zh (by omega),r,m];rw[o,Zn 1 (d-55),zT,yf,zL];congr 1
  rw[<-p];congr 2;omega
 ·rw[fF,zh (by omega),r,m]
 omega
theorem Vg (s:ByteArray)(d m:Bool)(h:(hd s d m).2.2.2=0):0<s.size/\d=false/\m=false/\hd s d m=AG s:=by
 unfold hd at h⊢;by_cases e:s.size=0
 ·rw[zi e]at h;simp at h
 rw[zh e]at h⊢;by_cases b:d=true
 ·rw[zi b]at h;simp at h
 rw[zh b]at h⊢;by_cases c:m=true
 ·rw[zi c]at h;simp at h
 rw[zh c];exact⟨by omega,by simpa using b,by simpa using c,rfl⟩
theorem vq {D:Int}{deep:Nat}:aG D deep=false↔(deep:Int)<=D/\deep<=16:=by simp[aG]
theorem pa {ahead:Nat}:aH M ahead=false↔(ahead:Int)+1<=M/\ahead+1<=1024:=by simp[aH]
structure abJ (D M:Int)(x:It)(l:List UInt8)(deep ahead items:Nat):Prop where
 gN:x.gN=l
 right:x.right=true
 items:items=x.count
 deepD:(deep:Int)+x.deep<=D+1
 deep16:deep+x.deep<=17
 manyM:(ahead:Int)+x.count<=M
 many:ahead+x.count<=1024
structure Vh (D M:Int)(xs:List It)(l:List UInt8)(deep ahead items:Nat):Prop where
 gN:gL xs=l
 right:dq xs=true
 items:items=aN xs
 deepD:xs≠ []->(deep:Int)+cK xs<=D+1
 deep16:xs≠ []->deep+cK xs<=17
 manyM:xs≠ []->(ahead:Int)+aN xs<=M
 many:xs≠ []->ahead+aN xs<=1024
theorem Pu (x:It):1<=x.deep:=by cases x;simp[It.deep]
theorem TA (D M:Int):∀(z:Nat),(∀(s:ByteArray) (deep ahead:Nat),s.size<=z->(bu D M s deep ahead).e=0->abJ D M (bu D M s deep ahead).x (s.data.toList.take (bu D M s deep ahead).size) deep ahead (bu D M s deep ahead).items)/\
 (∀(s:ByteArray) (deep ahead:Nat),s.size<=z->(cV D M s deep ahead).e=0->Vh D M (cV D M s deep ahead).xs s.data.toList deep ahead (cV D M s deep ahead).items):=by
 have L:∀(s:ByteArray) (deep ahead:Nat),s.size=0->Vh D M (cV D M s deep ahead).xs s.data.toList deep ahead (cV D M s deep ahead).items:=by
  intro s deep ahead h;rw[jG _ _ _ _ _ h];have:s.data.toList= []:=zp (by rw[aa];exact h);rw[this];exact⟨rfl,rfl,rfl,by simp,by simp,by simp,by simp⟩
 intro z;induction z with
 |zero=>
  refine⟨fun s deep ahead hz d=> ?_,fun s deep ahead hz _=>L s deep ahead (by omega)⟩;rw[dW D M s deep ahead _ rfl]at d;have:hd s (aG D deep) (aH M ahead)=(false,0,0,2):=by simp[hd,show s.size=0 by omega]
  rw[this]at d;simp[Rd.bad]at d
 |succ z ih=>
  obtain⟨ad,K⟩:=ih;have G:∀(s:ByteArray) (deep ahead:Nat),s.size<=z+1->(bu D M s deep ahead).e=0->abJ D M (bu D M s deep ahead).x (s.data.toList.take (bu D M s deep ahead).size) deep ahead (bu D M s deep ahead).items:=by
   intro s deep ahead hz d;have c:=dW D M s deep ahead _ rfl;have o:=Vg s (aG D deep) (aH M ahead);have n:=sW s (aG D deep) (aH M ahead);generalize hd s (aG D deep) (aH M ahead)=H at*;by_cases j:H.2.2.2≠0
   ·rw[zi j]at c;rw[c]at d;exact absurd d j
   have F:=zC.1 j;obtain⟨X,U,S,Y⟩:=o F;obtain⟨_,I,X1,ab⟩:=n F;obtain⟨d1,d2⟩:=vq.1 U;obtain⟨m1,m2⟩:=pa.1 S;have his:=WH s X H Y.symm F;rw[zh j]at c;by_cases i:H.1=false
   ·rw[zi i]at c;rw[c];dsimp only;have l:(s.extract H.2.1 (H.2.1+H.2.2.1)).size=H.2.2.1:=by rw[an _ _ _ I];omega
    have m:s.data.toList.take H.2.1++(s.extract H.2.1 (H.2.1+H.2.2.1)).data.toList=s.data.toList.take (H.2.1+H.2.2.1):=by
     rw[ar];have:=zI H.2.1 (s.data.toList.take (H.2.1+H.2.2.1));rwa [xu,yF (by omega)]at this
    refine⟨?_,by simp[It.right,formed,dq],by simp[It.count,aN],by simp[It.deep,cK];omega,by simp[It.deep,cK];omega,by simp[It.count,aN];omega,by simp[It.count,aN];omega⟩;have A:(s.extract H.2.1 (H.2.1+H.2.2.1)).data.toList.getD 0 0=if H.2.2.1=0 then 0 else s.data.toList.getD H.2.1 0:=by
     rw[ar,zw,xx];split
     ·rename_i h;rw[y8 (by rw[zV];omega)];rfl
     rw[yO (by omega),<-zw];rfl
    rcases his with⟨y,W⟩|⟨k,h4,N,J⟩
    ·rw[y]at l m A⊢;dsimp only at*;rw[It.gN,zh (by simp),zi ⟨l,by rw[A];simpa using W⟩,<-m];simp
    rw[It.gN,zh (by simp),zh (by rintro⟨a,b⟩;apply J;rw[l]at a;rw[A,zh (by omega)]at b;exact⟨i,a,b⟩),l,<-m,k,zh (by simp[i])]
   rw[zh i]at c;have O:H.1=true:=by simpa using i
   have l:(s.extract H.2.1 (H.2.1+H.2.2.1)).size=H.2.2.1:=by rw[an _ _ _ I];omega
   have ae:=ab O;have hS:=K (s.extract H.2.1 (H.2.1+H.2.2.1)) (deep+1) (ahead+1) (by omega);have m:s.data.toList.take H.2.1++(s.extract H.2.1 (H.2.1+H.2.2.1)).data.toList=s.data.toList.take (H.2.1+H.2.2.1):=by
    rw[ar];have:=zI H.2.1 (s.data.toList.take (H.2.1+H.2.2.1));rwa [xu,yF (by omega)]at this
   generalize cV D M (s.extract H.2.1 (H.2.1+H.2.2.1)) (deep+1) (ahead+1)=R at*;by_cases k:R.e≠0
   ·rw[zi k]at c;rw[c]at d;exact absurd d k
   rw[zh k]at c;rw[c];dsimp only;obtain⟨r,p,w,x,B,C,u⟩:=hS (zC.1 k);have E:R.xs= []\/R.xs≠ []:=by cases R.xs<;>simp
   refine⟨?_,by simp[It.right,formed,p],by simp[It.count,w], ?_, ?_, ?_, ?_⟩
   ·rcases his with⟨y,_⟩|⟨N,J,h7,h8⟩
    ·rw[y]at i;simp at i
    rw[It.gN,zi rfl,r,aa,l,<-m,N,zi O]
   all_goals
    rcases E with e|e
    ·rw[e];simp[It.deep,cK,It.count,aN];try omega
    first
    |(have:=x e;simp only[It.deep];omega)
    |(have:=B e;simp only[It.deep];omega)
    |(have:=C e;simp only[It.count];omega)
    |(have:=u e;simp only[It.count];omega)
  refine⟨G,fun s deep ahead hz d=> ?_⟩;by_cases o:s.size=0
  ·exact L s deep ahead o
  have c:=iy D M s deep ahead o _ rfl;have q:=G s deep ahead hz;have n:=ni D M (2*s.size+2) s deep ahead;change(bu D M s deep ahead).e=0->1<=(bu D M s deep ahead).size/\(bu D M s deep ahead).size<=s.size at n
  generalize bu D M s deep ahead=R at*;by_cases j:R.e≠0
  ·rw[zi j]at c;rw[c]at d;have:within R.e≠0:=by unfold within;split<;>simp_all
   exact absurd d this
  have q:=q (zC.1 j);have n:=n (zC.1 j);rw[zh j]at c;have af:(s.extract R.size s.size).size=s.size-R.size:=an _ _ _ (zg _);have hS:=K (s.extract R.size s.size) deep (ahead+R.items) (by omega);generalize cV D M (s.extract R.size s.size) deep (ahead+R.items)=T at*;by_cases i:T.e≠0
  ·rw[zi i]at c;rw[c]at d;exact absurd d i
  rw[zh i]at c;rw[c];dsimp only;obtain⟨Z,a2,a3,a4,a5,a6,a7⟩:=q;obtain⟨r,p,w,x,B,C,u⟩:=hS (zC.1 i);have E:T.xs= []\/T.xs≠ []:=by cases T.xs<;>simp
  refine⟨?_,by simp[dq,a2,p],by simp[aN,a3,w],fun _=> ?_,fun _=> ?_,fun _=> ?_,fun _=> ?_⟩
  ·rw[gL,Z,r,ar,cT,zI]
  all_goals
   rcases E with e|e
   ·rw[e];simp only[cK,aN];omega
   have:=x e;have:=B e;have:=C e;have:=u e;simp only[cK,aN];omega
theorem WI (D M:Int)(x:It):∀(s:ByteArray) (more:List UInt8) (deep ahead:Nat),s.data.toList=x.gN++more->s.size<18446744073709551616->x.right=true->(deep:Int)+x.deep<=D+1->deep+x.deep<=17->(ahead:Int)+x.count<=M->ahead+x.count<=1024->
 bu D M s deep ahead=⟨.mk (if x.list=true then ByteArray.empty else x.text) x.list x.sub,x.gN.length,x.count,0⟩:=by
 induction x using It.ind with
 |h t l xs ih=>
  intro s more deep ahead c aE k U B w C;have hz:s.size=(It.mk t l xs).gN.length+more.length:=by rw[<-aa,c,zl]
  have Z:=Pu (.mk t l xs);have Ou:=BH (.mk t l xs);have m:0<s.size->hd s (aG D deep) (aH M ahead)=AG s:=by
   intro h;unfold hd;rw[zh (by omega),vq.2 (by omega),pa.2 (by omega)];simp
  cases l with
  |false=>
   have W:xs= []:=by
    simp only[It.right,formed,zy]at k;exact zp (by simpa using k.1)
   subst W;rw[It.gN,zh (by simp)]at c hz⊢;by_cases j:t.size=1/\(t.data.toList.getD 0 0).toNat<128
   ·rw[zi j]at c hz⊢;rw[aa]at hz;have K:s.data.toList.getD 0 0=t.data.toList.getD 0 0:=by
     rw[c,zw,xB (by rw[aa];omega),<-zw]
    have e:hd s (aG D deep) (aH M ahead)=(false,0,1,0):=by
     rw[m (by omega)];unfold AG;rw[K];dsimp only;rw[zi j.2]
    rw[dW D M s deep ahead _ e];simp only[It.uc,It.ua,It.gS,It.count,aN];have:s.extract 0 (0+1)=t:=by
     apply aM;rw[ar,c,zL,zZ (by rw[aa];omega),zz (by rw[aa];omega)]
    simp[this,j.1]
   rw[zh j]at c hz⊢;rw[zE]at c;have e:hd s (aG D deep) (aH M ahead)=(decide (128=192),(cM 128 t.size).length,t.size,0):=by
    rw[zl,aa]at hz;have E:1<=(cM 128 t.size).length:=by rw[fF];split<;>omega
    rw[m (by omega)];refine E4 s 128 t.size _ (.inl rfl) c (by simp) (by omega) ?_;intro _ O;have:((t.data.toList++more).getD 0 0)=t.data.toList.getD 0 0:=by
     rw[zw,xB (by rw[aa];omega),<-zw]
    rw[this];exact Nat.le_of_not_lt fun h=>j ⟨O,h⟩
   rw[dW D M s deep ahead _ e];simp only[It.uc,It.ua,It.gS,It.count,aN];have:s.extract (cM 128 t.size).length ((cM 128 t.size).length+t.size)=t:=by
    apply aM;rw[ar,c,<-zE,zZ (by rw[zl,aa];omega),zz (by rw[zl,aa];omega),List.drop_left]
   simp[this]
  |true=>
   rw[It.gN,zi rfl]at c hz⊢;rw[zE]at c;rw[zl]at hz;have E:1<=(cM 192 (gL xs).length).length:=by rw[fF];split<;>omega
   have e:hd s (aG D deep) (aH M ahead)=(decide (192=192),(cM 192 (gL xs).length).length,(gL xs).length,0):=by
    rw[m (by omega)];exact E4 s 192 (gL xs).length _ (.inr rfl) c (by simp) (by omega) (by omega)
   have q:(s.extract (cM 192 (gL xs).length).length ((cM 192 (gL xs).length).length+(gL xs).length)).data.toList=gL xs:=by
    rw[ar,c,<-zE,zZ (by rw[zl];omega),zz (by rw[zl];omega),List.drop_left]
   rw[dW D M s deep ahead _ e];simp only[It.uc,It.ua,It.gS];rw[zh (by simp),zh (by simp)];simp only[It.right,zy]at k;have o:=k.2;have r:(deep:Int)+1+cK xs<=D+1:=by simp only[It.deep]at U;omega
   have J:deep+1+cK xs<=17:=by simp only[It.deep]at B;omega
   have ab:(ahead:Int)+1+aN xs<=M:=by simp only[It.count]at w;omega
   have Y:ahead+1+aN xs<=1024:=by simp only[It.count]at C;omega
   have G:∀(b:List It),(∀y∈b,y∈xs)->∀(u:ByteArray) (a:Nat),u.data.toList=gL b->u.size<18446744073709551616->dq b=true->(deep:Int)+1+cK b<=D+1->deep+1+cK b<=17->(a:Int)+aN b<=M->a+aN b<=1024->dq b=true->
    cV D M u (deep+1) a=⟨b,aN b,0⟩:=by
    intro b;induction b with
    |nil=>
     intro _ u a hu _ _ _ _ _ _ _;rw[jG _ _ _ _ _ (by rw[<-aa,hu];rfl)];rfl
    |cons y b ihy=>
     intro p u a hu L i R I X A _;simp only[dq,zy]at i;simp only[cK]at R I;simp only[aN]at X A;rw[gL]at hu;have n:=ih y (p y (by simp)) u (gL b) (deep+1) a hu L i.1 (by omega) (by omega) (by omega) (by omega);have N:(It.mk (if y.list=true then ByteArray.empty else y.text) y.list y.sub)=y:=by
      cases y with
      |mk t' l' s'=>
       simp only[It.ua,It.uc,It.gS];cases l' with
       |false=>simp
       |true=>
        have F:t'.size=0:=by
         have:=i.1;simp only[It.right,formed,zy]at this;simpa using this.1
        have:t'=ByteArray.empty:=aM (by rw[zp (show t'.data.toList.length=0 by rw[aa];exact F)];rfl);rw[this];simp
     have d:=ni D M (2*u.size+2) u (deep+1) a;change(bu D M u (deep+1) a).e=0->1<=(bu D M u (deep+1) a).size/\(bu D M u (deep+1) a).size<=u.size at d
     rw[n]at d;have d:=d rfl;dsimp only at d;rw[iy D M u (deep+1) a (by omega) _ n];dsimp only;rw[zh (by simp)];have S:(u.extract y.gN.length u.size).data.toList=gL b:=by rw[ar,cT,hu,List.drop_left]
     have H:=ihy (fun z hz=>p z (by simp[hz])) (u.extract y.gN.length u.size) (a+y.count) S (by rw[an _ _ _ (zg _)];omega) i.2 (by omega) (by omega) (by omega) (by omega) i.2;rw[H];dsimp only;rw[zh (by simp),N,aN]
   rw[G xs (fun _ h=>h) _ _ q (by rw[<-aa,q];omega) o r J (by omega) (by omega) o];dsimp only;rw[zh (by simp),zl,It.count];simp
theorem TB (D M:Int)(x:It)(s:ByteArray)(more:List UInt8)(deep ahead:Nat)(h:s.data.toList=x.gN++more)(d:s.size<18446744073709551616)(b:x.right=true)(c:(deep:Int)+x.deep<=D+1)(k:deep+x.deep<=17)(e:(ahead:Int)+x.count<=M)(i:ahead+x.count<=1024):
 bu D M s deep ahead=⟨x,x.gN.length,x.count,0⟩:=by
 rw[WI D M x s more deep ahead h d b c k e i];cases x with
 |mk t l xs=>
  cases l with
  |false=>rfl
  |true=>
   have j:t.size=0:=by
    simp only[It.right,formed,zy]at b;simpa using b.1
   have:t=ByteArray.empty:=aM (by rw[zp (show t.data.toList.length=0 by rw[aa];exact j)];rfl);subst this;rfl
