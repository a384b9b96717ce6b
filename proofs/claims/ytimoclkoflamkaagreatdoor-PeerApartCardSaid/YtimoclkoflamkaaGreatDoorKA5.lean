/- Items as bytes: plain functions and their laws. -/
import Derived.Test.YtimoclkoflamkaaGreatDoorKA4
set_option linter.all false
namespace Go.Proofs.YtimoclkoflamkaaGreatDoor
variable {M z d:Int}{m n:Nat}
def zp:=@beq_eq_false_iff_ne
def zD:=@List.getElem_mem
def zF:=@decide_eq_true
def yf:=@of_decide_eq_true
def yS:=@List.getElem_cons_zero
def xe:=@Nat.add_zero
def Zm:=@Bool.and_true
def ZO:=@List.drop_left'
def ZR:=@List.getD_cons_zero
def Yn:=@List.length_eq_one_iff
theorem Kj (n:Nat):mr (cE n)=n:=by
 induction n using Nat.strongRecOn with
 |ind n ih=>
  by_cases h:n=0
  ·subst h;rw[dj];rfl
  rw[gI h,uO,ih (n/256) (by omega),bn _ (by omega)];omega
theorem Kk (n:Nat)(h:n≠0):cE n≠ []:=by rw[gI h];simp
theorem BJ (n:Nat)(h:n≠0):(cE n).getD 0 0≠0:=by
 induction n using Nat.strongRecOn with
 |ind n ih=>
  rw[gI h];by_cases c:n/256=0
  ·rw[c,dj,yo];intro e;have d:=bn (n%256) (by omega);simp only[ZR]at e;rw[e]at d;simp at d;omega
  have:=ih (n/256) (by omega) c;cases hl:cE (n/256)with
  |nil=>exact absurd hl (Kk _ c)
  |cons a b=>rw[hl]at this;simpa using this
theorem EZ (l:List UInt8)(h:l.getD 0 0≠0):cE (mr l)=l:=by
 obtain⟨k,d⟩:∃k,l.length=k:=⟨_,rfl⟩
 induction k generalizing l with
 |zero=>obtain rfl:=zo d;simp at h
 |succ k ih=>
  have i:l≠ []:=by intro e;subst e;simp at d
  have e:=List.dropLast_concat_getLast i;have p:=(l.getLast i).toNat_lt;by_cases n:k=0
  ·subst n;match l,d with
   | [b],_=>
    have o:b.toNat≠0:=fun e=>h (by simp;exact zT.1 e)
    have r:=b.toNat_lt;have m:mr [b]=b.toNat:=by simp[mr,da]
    rw[m,gI o,show b.toNat/256=0 from by omega,dj,yo];congr 1
    apply zT.1;rw[bn _ (by omega)];omega
  have c:l.dropLast.getD 0 0≠0:=by
   have:l.dropLast.getD 0 0=l.getD 0 0:=by
    rw[zw,zw,List.getElem?_dropLast,zj (by omega)]
   rw[this];exact h
  have j:=ih l.dropLast c (by rw[List.length_dropLast];omega);rw[<-e,uO,gI,show(256*mr l.dropLast+(l.getLast i).toNat)/256=mr l.dropLast from by omega,j]
  ·congr 2
   apply zT.1;rw[bn _ (by omega)];omega
  intro q;have:mr l.dropLast=0:=by omega
  rw[this,dj]at j;rw[<-j]at c;simp at c
def cA (b n:Nat):List UInt8:=if n<=55 then [ub ((b+n:Nat):Int)]else ub ((b+55+(cE n).length:Nat):Int)::cE n
mutual
def It.fy :It->List UInt8
 | .mk t l s=>if l=true then cA 192 (fo s).length++fo s else if t.size=1/\(t.data.toList.getD 0 0).toNat<128 then t.data.toList else cA 128 t.size++t.data.toList
def fo :List It->List UInt8
 | []=> []
 |x::xs=>x.fy++fo xs
end
def kP (b:List UInt8):List UInt8:=cA 192 b.length++b
def ec (xs:List It)(b:List UInt8)(rest:List (List It×List UInt8)):List UInt8:=rest.foldl (fun inner f=>f.2++(kP inner++fo f.1)) (b++fo xs)
theorem o7 (b c:List UInt8)(d:List It)(rest:List (List It×List UInt8)):ec [] b ((d,c)::rest)=ec d (c++kP b) rest:=by simp[ec,fo]
theorem mT (x:It)(xs:List It)(b:List UInt8)(rest:List (List It×List UInt8)):ec (x::xs) b rest=ec xs (b++x.fy) rest:=by simp[ec,fo]
theorem E3 (t:ByteArray)(s:List It)(xs:List It)(b:List UInt8)(rest:List (List It×List UInt8)):ec (.mk t true s::xs) b rest=ec s [] ((xs,b)::rest):=by simp[ec,fo,It.fy,kP]
def BK (s:ByteArray):Bool×Nat×Nat×Int:=
 let b:=(s.data.toList.getD 0 0).toNat
 if b<128 then(false,0,1,0)
 else
  let l:=decide (192<=b)
  let told:=if 192<=b then b-192 else b-128
  let size:=if told<=55 then 1 else 1+(told-55)
  let n:=if told<=55 then told else mr (s.extract 1 size).data.toList
  if told<=55 then
   if s.size<size+n then(false,0,0,2)
   else if l=false/\n=1/\(s.data.toList.getD 1 0).toNat<128 then(false,0,0,3)
   else(l,1,told,0)
  else
   if s.size<size then(false,0,0,2)
   else if(s.data.toList.getD 1 0).toNat=0\/n<=55 then(false,0,0,3)
   else if s.size<size+n then(false,0,0,2)
   else(l,size,n,0)
def hd (s:ByteArray)(deep many:Bool):Bool×Nat×Nat×Int:=
 if s.size=0 then(false,0,0,2)else if deep=true then(false,0,0,6)else if many=true then(false,0,0,4)else BK s
theorem WH (s:ByteArray)(k:0<s.size)(h:(BK s).2.2.2=0):(BK s).2.1+(BK s).2.2.1<=s.size/\1<=(BK s).2.1+(BK s).2.2.1/\((BK s).1=true->1<=(BK s).2.1):=by
 unfold BK at h⊢;dsimp only at h⊢;generalize (s.data.toList.getD 0 0).toNat=b at*;by_cases e:b<128
 ·rw[zj e]at h⊢;dsimp only;refine⟨by omega,by omega,by simp⟩
 rw[zi e]at h⊢;generalize (if 192<=b then b-192 else b-128)=told at*;by_cases i:told<=55
 ·simp only[zj i]at h⊢;by_cases c:s.size<1+told
  ·rw[zj c]at h;simp at h
  rw[zi c]at h⊢;split at h
  ·simp at h
  rename_i d;rw[zi d];dsimp only;refine⟨by omega,by omega,fun _=>by omega⟩
 simp only[zi i]at h⊢;generalize mr (s.extract 1 (1+(told-55))).data.toList=n at*;by_cases c:s.size<1+(told-55)
 ·rw[zj c]at h;simp at h
 rw[zi c]at h⊢;split at h
 ·simp at h
 rename_i d
 rw[zi d];split at h
 ·simp at h
 rename_i j
 rw[zi j];dsimp only;refine⟨by omega,by omega,fun _=>by omega⟩
theorem sL (s:ByteArray)(d m:Bool)(h:(hd s d m).2.2.2=0):0<s.size/\(hd s d m).2.1+(hd s d m).2.2.1<=s.size/\1<=(hd s d m).2.1+(hd s d m).2.2.1/\((hd s d m).1=true->1<=(hd s d m).2.1):=by
 unfold hd at h⊢;by_cases c:s.size=0
 ·rw[zj c]at h;simp at h
 rw[zi c]at h⊢;by_cases e:d=true
 ·rw[zj e]at h;simp at h
 rw[zi e]at h⊢;by_cases b:m=true
 ·rw[zj b]at h;simp at h
 rw[zi b]at h⊢;exact⟨by omega,WH s (by omega) h⟩
structure Rd where
 x:It
 size:Nat
 items:Nat
 e:Int
structure Kl where
 xs:List It
 items:Nat
 e:Int
def kx :It:= .mk ByteArray.empty false []
def Rd.bad (e:Int):Rd:=⟨kx,0,0,e⟩
def Kl.bad (e:Int):Kl:=⟨[],0,e⟩
def aG (D:Int)(deep:Nat):Bool:=decide (D<deep)||decide (16<deep)
def aH (M:Int)(ahead:Nat):Bool:=decide (M<ahead+1)||decide (1024<ahead+1)
def within (e:Int):Int:=if e=2 then 3 else e
mutual
def qg (D M:Int):Nat->ByteArray->Nat->Nat->Rd
 |0,_,_,_=>Rd.bad 2
 |f+1,s,deep,ahead=>
  if(hd s (aG D deep) (aH M ahead)).2.2.2≠0 then Rd.bad (hd s (aG D deep) (aH M ahead)).2.2.2
  else if(hd s (aG D deep) (aH M ahead)).1=false then
   ⟨.mk (s.extract (hd s (aG D deep) (aH M ahead)).2.1 ((hd s (aG D deep) (aH M ahead)).2.1+(hd s (aG D deep) (aH M ahead)).2.2.1)) false [],
    (hd s (aG D deep) (aH M ahead)).2.1+(hd s (aG D deep) (aH M ahead)).2.2.1,1,0⟩
  else
   if(E4 D M f (s.extract (hd s (aG D deep) (aH M ahead)).2.1 ((hd s (aG D deep) (aH M ahead)).2.1+(hd s (aG D deep) (aH M ahead)).2.2.1)) (deep+1) (ahead+1)).e≠0
   then Rd.bad (E4 D M f (s.extract (hd s (aG D deep) (aH M ahead)).2.1 ((hd s (aG D deep) (aH M ahead)).2.1+(hd s (aG D deep) (aH M ahead)).2.2.1)) (deep+1) (ahead+1)).e
   else⟨.mk ByteArray.empty true (E4 D M f (s.extract (hd s (aG D deep) (aH M ahead)).2.1 ((hd s (aG D deep) (aH M ahead)).2.1+(hd s (aG D deep) (aH M ahead)).2.2.1)) (deep+1) (ahead+1)).xs,
    (hd s (aG D deep) (aH M ahead)).2.1+(hd s (aG D deep) (aH M ahead)).2.2.1,
    1+(E4 D M f (s.extract (hd s (aG D deep) (aH M ahead)).2.1 ((hd s (aG D deep) (aH M ahead)).2.1+(hd s (aG D deep) (aH M ahead)).2.2.1)) (deep+1) (ahead+1)).items,0⟩
def E4 (D M:Int):Nat->ByteArray->Nat->Nat->Kl
 |0,_,_,_=>Kl.bad 2
 |f+1,s,deep,ahead=>
  if s.size=0 then⟨[],0,0⟩
  else if(qg D M f s deep ahead).e≠0 then Kl.bad (within (qg D M f s deep ahead).e)
  else if(E4 D M f (s.extract (qg D M f s deep ahead).size s.size) deep (ahead+(qg D M f s deep ahead).items)).e≠0
   then Kl.bad (E4 D M f (s.extract (qg D M f s deep ahead).size s.size) deep (ahead+(qg D M f s deep ahead).items)).e
  else⟨(qg D M f s deep ahead).x::(E4 D M f (s.extract (qg D M f s deep ahead).size s.size) deep (ahead+(qg D M f s deep ahead).items)).xs,
   (qg D M f s deep ahead).items+(E4 D M f (s.extract (qg D M f s deep ahead).size s.size) deep (ahead+(qg D M f s deep ahead).items)).items,0⟩
end
theorem mU (D M:Int)(f:Nat)(s:ByteArray)(deep ahead:Nat)(h:(qg D M f s deep ahead).e=0):1<=(qg D M f s deep ahead).size/\(qg D M f s deep ahead).size<=s.size:=by
 cases f with
 |zero=>simp[qg,Rd.bad]at h
 |succ f=>
  rw[qg]at h⊢;have e:=sL s (aG D deep) (aH M ahead);generalize hd s (aG D deep) (aH M ahead)=H at*;by_cases b:H.2.2.2≠0
  ·rw[zj b]at h;exact absurd h b
  rw[zi b]at h⊢;have e:=e (zE.1 b);by_cases d:H.1=false
  ·rw[zj d];dsimp only;omega
  rw[zi d]at h⊢;split at h
  ·rename_i c;exact absurd h c
  rename_i c;rw[zi c];dsimp only;omega
theorem CR (D M:Int):∀(z:Nat),(∀(s:ByteArray) (deep ahead f g:Nat),s.size<=z->2*s.size<=f->2*s.size<=g->qg D M f s deep ahead=qg D M g s deep ahead)/\
 (∀(s:ByteArray) (deep ahead f g:Nat),s.size<=z->2*s.size+1<=f->2*s.size+1<=g->E4 D M f s deep ahead=E4 D M g s deep ahead):=by
 intro z;induction z with
 |zero=>
  refine⟨fun s deep ahead f g hz _ _=> ?_,fun s deep ahead f g hz i h=> ?_⟩
  ·have e:s.size=0:=by omega
   have p:∀d m,hd s d m=(false,0,0,2):=fun d m=>by simp[hd,e]
   have:∀f,qg D M f s deep ahead=Rd.bad 2:=by
    intro f;cases f with
    |zero=>rfl
    |succ f=>rw[qg];simp[p]
   rw[this f,this g]
  obtain⟨f,rfl⟩:∃k,f=k+1:=⟨f-1,by omega⟩
  obtain⟨g,rfl⟩:∃k,g=k+1:=⟨g-1,by omega⟩
  rw[E4,E4,zj (by omega),zj (by omega)]
 |succ z ih=>
  obtain⟨o,l⟩:=ih;have n:∀(s:ByteArray) (deep ahead f g:Nat),s.size<=z+1->2*s.size<=f->2*s.size<=g->qg D M f s deep ahead=qg D M g s deep ahead:=by
   intro s deep ahead f g hz i h;by_cases e:s.size=0
   ·exact o s deep ahead f g (by omega) i h
   obtain⟨f,rfl⟩:∃k,f=k+1:=⟨f-1,by omega⟩
   obtain⟨g,rfl⟩:∃k,g=k+1:=⟨g-1,by omega⟩
   rw[qg,qg];have c:=sL s (aG D deep) (aH M ahead);generalize hd s (aG D deep) (aH M ahead)=H at*;by_cases b:H.2.2.2≠0
   ·rw[zj b,zj b]
   have c:=c (zE.1 b);by_cases j:H.1=false
   ·rw[zi b,zi b,zj j,zj j]
   have r:=c.2.2.2 (by simpa using j);have q:(s.extract H.2.1 (H.2.1+H.2.2.1)).size=H.2.2.1:=by rw[ar _ _ _ c.2.1];omega
   rw[l (s.extract H.2.1 (H.2.1+H.2.2.1)) (deep+1) (ahead+1) f g (by omega) (by omega) (by omega)]
  refine⟨n,fun s deep ahead f g hz i h=> ?_⟩;by_cases e:s.size=0
  ·exact l s deep ahead f g (by omega) i h
  obtain⟨f,rfl⟩:∃k,f=k+1:=⟨f-1,by omega⟩
  obtain⟨g,rfl⟩:∃k,g=k+1:=⟨g-1,by omega⟩
  rw[E4,E4,zi e,zi e,n s deep ahead f g hz (by omega) (by omega)];have c:=mU D M g s deep ahead;generalize qg D M g s deep ahead=R at*;by_cases b:R.e≠0
  ·rw[zj b,zj b]
  have c:=c (zE.1 b);have q:(s.extract R.size s.size).size=s.size-R.size:=ar _ _ _ (zd _);rw[l (s.extract R.size s.size) deep (ahead+R.items) f g (by omega) (by omega) (by omega)]
def bq (D M:Int)(s:ByteArray)(deep ahead:Nat):Rd:=qg D M (2*s.size+2) s deep ahead
def cQ (D M:Int)(s:ByteArray)(deep ahead:Nat):Kl:=E4 D M (2*s.size+1) s deep ahead
theorem dM (D M:Int)(s:ByteArray)(deep ahead:Nat)(H:Bool×Nat×Nat×Int)(e:hd s (aG D deep) (aH M ahead)=H):bq D M s deep ahead=
 if H.2.2.2≠0 then Rd.bad H.2.2.2
 else if H.1=false then⟨.mk (s.extract H.2.1 (H.2.1+H.2.2.1)) false [],H.2.1+H.2.2.1,1,0⟩
 else if(cQ D M (s.extract H.2.1 (H.2.1+H.2.2.1)) (deep+1) (ahead+1)).e≠0 then Rd.bad (cQ D M (s.extract H.2.1 (H.2.1+H.2.2.1)) (deep+1) (ahead+1)).e
 else⟨.mk ByteArray.empty true (cQ D M (s.extract H.2.1 (H.2.1+H.2.2.1)) (deep+1) (ahead+1)).xs,H.2.1+H.2.2.1,1+(cQ D M (s.extract H.2.1 (H.2.1+H.2.2.1)) (deep+1) (ahead+1)).items,0⟩:=by
 subst e;rw[bq,qg];have c:=sL s (aG D deep) (aH M ahead);generalize hd s (aG D deep) (aH M ahead)=H at*;by_cases b:H.2.2.2≠0
 ·rw[zj b,zj b]
 have c:=c (zE.1 b);by_cases d:H.1=false
 ·rw[zi b,zi b,zj d,zj d]
 have h:(s.extract H.2.1 (H.2.1+H.2.2.1)).size=H.2.2.1:=by rw[ar _ _ _ c.2.1];omega
 rw[cQ,(CR D M s.size).2 (s.extract H.2.1 (H.2.1+H.2.2.1)) (deep+1) (ahead+1) (2*s.size+1) (2*(s.extract H.2.1 (H.2.1+H.2.2.1)).size+1) (by omega) (by omega) (by omega)]
theorem js (D M:Int)(s:ByteArray)(deep ahead:Nat)(h:s.size=0):cQ D M s deep ahead=⟨[],0,0⟩:=by rw[cQ,E4,zj h]
theorem ik (D M:Int)(s:ByteArray)(deep ahead:Nat)(h:s.size≠0)(R:Rd)(d:bq D M s deep ahead=R):cQ D M s deep ahead=
 if R.e≠0 then Kl.bad (within R.e)
 else if(cQ D M (s.extract R.size s.size) deep (ahead+R.items)).e≠0 then Kl.bad (cQ D M (s.extract R.size s.size) deep (ahead+R.items)).e
 else⟨R.x::(cQ D M (s.extract R.size s.size) deep (ahead+R.items)).xs,R.items+(cQ D M (s.extract R.size s.size) deep (ahead+R.items)).items,0⟩:=by
 subst d;rw[cQ,E4,zi h,bq,(CR D M s.size).1 s deep ahead (2*s.size) (2*s.size+2) (by omega) (by omega) (by omega)];have c:=mU D M (2*s.size+2) s deep ahead;generalize qg D M (2*s.size+2) s deep ahead=R at*;by_cases b:R.e≠0
 ·rw[zj b,zj b]
 have c:=c (zE.1 b);have e:(s.extract R.size s.size).size=s.size-R.size:=ar _ _ _ (zd _);rw[cQ,(CR D M s.size).2 (s.extract R.size s.size) deep (ahead+R.items) (2*s.size) (2*(s.extract R.size s.size).size+1) (by omega) (by omega) (by omega)]
mutual
def It.lay :It->Ty->List UInt8
 | .mk tx _ s,t=>if t.kind=1 then jr (mr tx.data.toList) t.size.toNat else if t.kind=2 then tx.data.toList else if t.kind=3 then dr tx.size++tx.data.toList
  else if t.kind=4 then dr s.length++cl s t 0 else cl s t 0
def cl :List It->Ty->Nat->List UInt8
 | [],_,_=> []
 |x::xs,t,i=>x.lay (t.at i)++cl xs t (i+1)
end
theorem sM (a b:List It)(t:Ty)(i:Nat):cl (a++b) t i=cl a t i++cl b t (i+a.length):=by
 induction a generalizing i with
 |nil=>simp[cl]
 |cons x xs ih=>simp only[zW,cl,ih,zz,zC];rw[show i+1+xs.length=i+(xs.length+1)from by omega]
theorem BL {s:List It}{k:Nat}{t:Ty}(h:k<s.length):cl (s.take (k+1)) t 0=cl (s.take k) t 0++s[k].lay (t.at k):=by
 rw[fh s k h,sM];simp[cl,yG (Ym h)]
mutual
def Ty.full :Ty->Bool
 | .mk _ _ l t=>decide (t=0)&&ca l
def ca :List Ty->Bool
 | []=>true
 |x::xs=>x.full&&ca xs
end
def Ty.flat (t:Ty):Bool:=t.may&&ca t.sub
structure Ss where
 e:Int
 x:It
 n:Nat
 q:List UInt8
structure kQ where
 e:Int
 xs:List It
 n:Nat
 q:List UInt8
def Ss.bad (e:Int)(n:Nat)(q:List UInt8):Ss:=⟨e,kx,n,q⟩
def kQ.cons (x:It)(r:kQ):kQ:=⟨r.e,x::r.xs,r.n,r.q⟩
def kQ.list (r:kQ):Ss:=⟨r.e,.mk ⟨#[]⟩ true r.xs,r.n,r.q⟩
def tH (f:Nat->List UInt8->Ss):Nat->Nat->List UInt8->kQ
 |0,n,r=>⟨0,[],n,r⟩
 |c+1,n,r=>if(f n r).e≠0 then⟨(f n r).e,[(f n r).x],(f n r).n,(f n r).q⟩else(tH f c (f n r).n (f n r).q).cons (f n r).x
mutual
def Ty.rd (M:Int):Ty->Nat->List UInt8->Ss
 | .mk k z l ta,n,r=>
  if M<=n then .bad 4 n r
  else if k=1 then(if r.length<z.toNat then .bad 2 (n+1) r else⟨0,.mk ⟨(cE (da (r.take z.toNat))).toArray⟩ false [],n+1,r.drop z.toNat⟩)
  else if k=2 then(if r.length<z.toNat then .bad 2 (n+1) r else⟨0,.mk ⟨(r.take z.toNat).toArray⟩ false [],n+1,r.drop z.toNat⟩)
  else if k=3 then
   (if(au r).2.2≠0 then .bad (au r).2.2 (n+1) r else if z<(au r).1 then .bad 5 (n+1) r
   else if(r.drop (au r).2.1).length<(au r).1 then .bad 2 (n+1) (r.drop (au r).2.1)
   else⟨0,.mk ⟨((r.drop (au r).2.1).take (au r).1).toArray⟩ false [],n+1,(r.drop (au r).2.1).drop (au r).1⟩)
  else if k=4 then
   (if(au r).2.2≠0 then .bad (au r).2.2 (n+1) r else if z<(au r).1 then .bad 5 (n+1) r
   else(rdF M l (au r).1 (n+1) (r.drop (au r).2.1)).list)
  else(nQ M l ((l.length:Int)-ta).toNat (n+1) r).list
def rdF (M:Int):List Ty->Nat->Nat->List UInt8->kQ
 | [],_,n,r=>⟨0,[],n,r⟩
 |x::_,c,n,r=>tH (fun n r=>x.rd M n r) c n r
def nQ (M:Int):List Ty->Nat->Nat->List UInt8->kQ
 | [],_,n,r=>⟨0,[],n,r⟩
 |x::xs,m,n,r=>if m=0/\r= []then⟨0,[],n,r⟩
  else if(x.rd M n r).e≠0 then⟨(x.rd M n r).e,[(x.rd M n r).x],(x.rd M n r).n,(x.rd M n r).q⟩
  else(nQ M xs (m-1) (x.rd M n r).n (x.rd M n r).q).cons (x.rd M n r).x
end
theorem WI (l:List UInt8)(h:gW l=false):cE (mr l)=l:=by
 cases l with
 |nil=>simp[mr,da,dj]
 |cons b t=>
  apply EZ;have:(b==0)=false:=h;intro e;have c:b=0:=by simpa using e
  rw[c]at this;simp at this
theorem vx {s:List It}(h:dg s=true):∀x∈s,x.right=true:=by
 induction s with
 |nil=>simp
 |cons y ys ih=>
  simp only[dg,zy]at h;intro x hx;rcases yI.1 hx with rfl|hx
  ·exact h.1
  exact ih h.2 x hx
theorem lI {k:Int}{l:List Ty}{b:Int}(h:(Ty.mk k z l b).full=true):b=0/\ca l=true:=by
 simpa only[Ty.full,zy,zY]using h
def O' (t:Ty)(x:It)(q:List UInt8):Prop:=t.kind=5->(x.sub.length<t.sub.length->q= [])/\∀j (hj:j<x.sub.length) (mz:j<t.sub.length),((t.sub.length:Int)-t.tail).toNat<=j->(x.sub[j]).lay (t.sub[j])≠ []
theorem mV {t:Ty}{x:It}(h:t.full=true)(hi:x.dy t=true)(q:List UInt8):O' t x q:=by
 intro d;obtain⟨k,z,l,n⟩:=t;obtain⟨p,b,s⟩:=x;obtain⟨rfl,_⟩:=lI h;simp only[Ty.J9]at d;subst d;simp[It.dy,qZ]at hi;obtain⟨⟨⟨_,o⟩,m⟩,_⟩:=hi;refine⟨fun c=> ?_,fun j i e c=> ?_⟩
 ·simp only[It.gE,Ty.gE]at c;omega
 simp only[It.gE,Ty.gE,Ty.CJ]at i e c;omega
theorem Km {a t:Ty}{f:Nat->List UInt8->Ss}:∀(s:List It) (i n:Nat) (q:List UInt8),(∀j,t.at (i+j)=a)->(∀x∈s,∀(n:Nat) (q:List UInt8),(n:Int)+x.count<=M->f n (x.lay a++q)=⟨0,x,n+x.count,q⟩)->(n:Int)+aC s<=M->
 tH f s.length n (cl s t i++q)=⟨0,s,n+aC s,q⟩
 | [],i,n,q,_,_,_=>by simp[tH,cl,aC]
 |x::xs,i,n,q,ha,hf,hM=>by
  simp only[aC]at hM;have b:=ha 0;rw[xe]at b;have hx:=hf x (by simp) n (cl xs t (i+1)++q) (by omega);rw[zz,cl,b,zC,tH,hx];simp only[Yo,yX,xN];rw[Km xs (i+1) (n+x.count) q (fun j=>by have:=ha (j+1);rwa [show i+(j+1)=i+1+j from by omega]at this) (fun y c=>hf y (by simp[c])) (by omega)];simp[kQ.cons,aC,yg]
theorem Kn {t:Ty}:∀(b:List Ty) (s:List It) (m i n:Nat) (q:List UInt8),(∀j (h:j<b.length),t.at (i+j)=b[j])->m<=s.length->s.length<=b.length->(s.length<b.length->q= [])->
 (∀j (c:j<s.length) (d:j<b.length),m<=j->(s[j]).lay (b[j])≠ [])->
 (∀j (c:j<s.length) (d:j<b.length),∀(n:Nat) (q:List UInt8),(n:Int)+(s[j]).count<=M->(b[j]).rd M n ((s[j]).lay (b[j])++q)=⟨0,s[j],n+(s[j]).count,q⟩)->(n:Int)+aC s<=M->
 nQ M b m n (cl s t i++q)=⟨0,s,n+aC s,q⟩
 | [],s,m,i,n,q,_,_,hs,_,_,_,_=>by
  obtain rfl:s= []:=zo (by simpa using hs);simp[nQ,cl,aC]
 |a::b,[],m,i,n,q,_,hm,_,hq,_,_,_=>by
  have k:m=0:=by simpa using hm
  have o:=hq (by simp);subst k o;simp[nQ,cl,aC]
 |a::b,x::xs,m,i,n,q,ha,hm,hs,hq,bY,hf,hM=>by
  simp only[aC]at hM;have e:=ha 0 (by simp);rw[xe]at e;have hx:=hf 0 (by simp) (by simp) n (cl xs t (i+1)++q) (by simp only[yS];omega);simp only[yS]at hx e;rw[cl,e,zC,nQ,hx];rw[zi (by
   rintro⟨k,l⟩;have:=bY 0 (by simp) (by simp) (by omega);simp only[yS]at this;exact this (List.append_eq_nil_iff.1 l).1)]
  simp only[Yo,yX,xN];rw[Kn b xs (m-1) (i+1) (n+x.count) q (fun j c=>by have:=ha (j+1) (by simpa using c);simpa[show i+(j+1)=i+1+j from by omega]using this) (by simp at hm;omega) (by simpa using hs) (fun h=>hq (by simpa using h))
   (fun j c d h=>by have:=bY (j+1) (by simpa using c) (by simpa using d) (by omega);simpa using this) (fun j c d=>by have:=hf (j+1) (by simpa using c) (by simpa using d);simpa using this) (by omega)]
  simp[kQ.cons,aC,yg]
theorem Ko {l:List Ty}{c:ByteArray}{b:Bool}(h:qZ (.mk 1 z l d) c b m=true):b=false/\(c.size:Int)<=z/\gW c.data.toList=false:=by
 simp[qZ]at h;exact⟨h.1.1,yf h.1.2,h.2⟩
theorem CS {l:List Ty}{c:ByteArray}{b:Bool}(h:qZ (.mk 2 z l d) c b m=true):b=false/\(c.size:Int)=z:=by
 simp[qZ]at h;exact⟨h.1,yf h.2⟩
theorem rG {l:List Ty}{c:ByteArray}{b:Bool}(h:qZ (.mk 3 z l d) c b m=true):b=false/\(c.size:Int)<=z:=by
 simp[qZ]at h;exact⟨h.1,yf h.2⟩
theorem E5 {l:List Ty}{c:Int}{d:ByteArray}{b:Bool}(h:qZ (.mk 4 z l c) d b m=true):b=true/\(m:Int)<=z:=by
 simp[qZ]at h;exact⟨h.1,yf h.2⟩
theorem qh {l:List Ty}{c:Int}{d:ByteArray}{b:Bool}(h:qZ (.mk 5 z l c) d b m=true):b=true/\m<=l.length/\(l.length:Int)-c<=m:=by
 simp[qZ]at h;exact⟨h.1.1,yf h.1.2,yf h.2⟩
theorem ur (c:ByteArray)(b:Bool)(s:List It)(z:Int)(l:List Ty)(d:Int):(It.mk c b s).lay (.mk 1 z l d)=jr (mr c.data.toList) z.toNat:=rfl
theorem uu (c:ByteArray)(b:Bool)(s:List It)(z:Int)(l:List Ty)(d:Int):(It.mk c b s).lay (.mk 2 z l d)=c.data.toList:=rfl
theorem nR (c:ByteArray)(b:Bool)(s:List It)(z:Int)(l:List Ty)(d:Int):(It.mk c b s).lay (.mk 3 z l d)=dr c.size++c.data.toList:=rfl
theorem qi (d:ByteArray)(b:Bool)(s:List It)(z:Int)(l:List Ty)(c:Int):(It.mk d b s).lay (.mk 4 z l c)=dr s.length++cl s (.mk 4 z l c) 0:=rfl
theorem mW (d:ByteArray)(b:Bool)(s:List It)(z:Int)(l:List Ty)(c:Int):(It.mk d b s).lay (.mk 5 z l c)=cl s (.mk 5 z l c) 0:=rfl
theorem Kp (h:M<=n)(t:Ty)(r:List UInt8):t.rd M n r= .bad 4 n r:=by obtain⟨k,z,l,b⟩:=t;rw[Ty.rd,zj h]
theorem Is (h:¬M<=n)(z:Int)(l:List Ty)(b:Int)(r:List UInt8):(Ty.mk 1 z l b).rd M n r=if r.length<z.toNat then .bad 2 (n+1) r else⟨0,.mk ⟨(cE (da (r.take z.toNat))).toArray⟩ false [],n+1,r.drop z.toNat⟩:=by rw[Ty.rd,zi h];rfl
theorem Iu (h:¬M<=n)(z:Int)(l:List Ty)(b:Int)(r:List UInt8):(Ty.mk 2 z l b).rd M n r=if r.length<z.toNat then .bad 2 (n+1) r else⟨0,.mk ⟨(r.take z.toNat).toArray⟩ false [],n+1,r.drop z.toNat⟩:=by rw[Ty.rd,zi h];rfl
theorem vy (h:¬M<=n)(z:Int)(l:List Ty)(b:Int)(r:List UInt8):(Ty.mk 3 z l b).rd M n r=if(au r).2.2≠0 then .bad (au r).2.2 (n+1) r else if z<(au r).1 then .bad 5 (n+1) r
 else if(r.drop (au r).2.1).length<(au r).1 then .bad 2 (n+1) (r.drop (au r).2.1)
 else⟨0,.mk ⟨((r.drop (au r).2.1).take (au r).1).toArray⟩ false [],n+1,(r.drop (au r).2.1).drop (au r).1⟩:=by rw[Ty.rd,zi h];rfl
theorem CT (h:¬M<=n)(z:Int)(l:List Ty)(b:Int)(r:List UInt8):(Ty.mk 4 z l b).rd M n r=if(au r).2.2≠0 then .bad (au r).2.2 (n+1) r else if z<(au r).1 then .bad 5 (n+1) r
 else(rdF M l (au r).1 (n+1) (r.drop (au r).2.1)).list:=by rw[Ty.rd,zi h];rfl
theorem uv (h:¬M<=n)(z:Int)(l:List Ty)(b:Int)(r:List UInt8):(Ty.mk 5 z l b).rd M n r=(nQ M l ((l.length:Int)-b).toNat (n+1) r).list:=by rw[Ty.rd,zi h];rfl
theorem kR :∀(s:List It) (t:Ty) (i:Nat),dK s t i=true->∀j (h:j<s.length),(s[j]).dy (t.at (i+j))=true
 | [],_,_,_,j,h=>by simp at h
 |x::xs,t,i,hi,0,h=>by simp only[dK,zy]at hi;simpa using hi.1
 |x::xs,t,i,hi,j+1,h=>by
  simp only[dK,zy]at hi;have:=kR xs t (i+1) hi.2 j (by simpa using h);rw[show i+(j+1)=i+1+j from by omega];simpa using this
theorem Fa {s:List Ty}(h:ca s=true):∀k (b:k<s.length),(s[k]).full=true:=by
 induction s with
 |nil=>intro k b;simp at b
 |cons x xs ih=>
  simp only[ca,zy]at h;intro k b;cases k with
  |zero=>exact h.1
  |succ k=>exact ih h.2 k (by simpa using b)
theorem Pa (M:Int)(hM:M<=1024)(x:It):∀(t:Ty) (n:Nat) (q:List UInt8),t.right=true->ca t.sub=true->O' t x q->x.dy t=true->x.right=true->(n:Int)+x.count<=M->
 t.rd M n (x.lay t++q)=⟨0,x,n+x.count,q⟩:=by
 induction x using It.ind with
 |h tx b s ih=>
  intro t n q hr N uC hi hx I;obtain⟨k,z,l,d⟩:=t;obtain⟨bE,R⟩:=jB hr;obtain⟨u,ad⟩:=mP hx;have Y:=vx ad;have o:¬M<=(n:Int):=by simp only[It.count]at I;omega
  simp only[It.dy,zy]at hi;obtain⟨c,dQ⟩:=hi;have A:=kR s _ 0 dQ;simp only[zJ]at A;simp only[Ty.gE]at N;rcases ka bE with⟨rfl,hs,y,B⟩|⟨rfl,O,E,y,B⟩|⟨rfl,O,E,y,B⟩|⟨rfl,O,E,y,B⟩|⟨rfl,O,E,h5,h6⟩
  ·replace c:=Ko c;obtain⟨rfl,hz,Ag⟩:=c;have p:s= []:=by simpa[formed]using u
   subst p;have W:=CB tx.data.toList;rw[aa]at W;have K:tx.size<=z.toNat:=by omega
   have Gx:mr tx.data.toList<2^(8*z.toNat):=zQ W (yq (by omega) (by omega));rw[ur,Is o];rw[zi (by rw[zk,bc];omega),ZN (bc _ _),ZO (bc _ _),OY _ _ Gx,WI _ Ag,jv];simp[It.count,aC]
  ·replace c:=CS c;obtain⟨rfl,hz⟩:=c;have p:s= []:=by simpa[formed]using u
   subst p;have K:tx.data.toList.length=z.toNat:=by rw[aa];omega
   rw[uu,Iu o];rw[zi (by rw[zk];omega),ZN K,ZO K,jv];simp[It.count,aC]
  ·replace c:=rG c;obtain⟨rfl,hz⟩:=c;have p:s= []:=by simpa[formed]using u
   subst p;have D:=vw tx.size (tx.data.toList++q) (by omega);have F:(dr tx.size++(tx.data.toList++q)).drop (dr tx.size).length=tx.data.toList++q:=ZO rfl;rw[nR,zC,vy o];rw[D];simp only[F];rw[zi (by simp),zi (by omega),zi (by rw[zk,aa];omega),ZN (aa tx),ZO (aa tx),jv];simp[It.count,aC]
  ·replace c:=E5 c;obtain⟨rfl,hz⟩:=c;have H:tx=⟨#[]⟩:=by
    have:tx.size=0:=by simpa[formed]using u
    exact aF (by simp[zo ((aa tx).trans this)])
   subst H;obtain⟨a,rfl⟩:=Yn.1 y;have m:∀j,(Ty.mk 4 z [a] d).at j=a:=fun j=>by unfold Ty.at;simp
   have J:a.right=true:=by simpa[bQ]using R
   have r:a.full=true:=by simpa[ca]using N
   have D:=vw s.length (cl s (.mk 4 z [a] d) 0++q) (by omega);have F:(dr s.length++(cl s (.mk 4 z [a] d) 0++q)).drop (dr s.length).length=cl s (.mk 4 z [a] d) 0++q:=ZO rfl;simp only[It.count]at I;have C:=Km (M:=M) (a:=a) (t:= .mk 4 z [a] d) (f:=fun n ab=>a.rd M n ab) s 0 (n+1) q (fun j=>m _) (fun x i n q L=>by
    obtain⟨j,w,rfl⟩:=yY i;have e:=A j w;rw[m]at e;obtain⟨ak,az,al,at_⟩:=a;exact ih _ i _ n q J (lI r).2 (mV r e q) e (Y _ i) L) (by omega)
   rw[qi,zC,CT o];rw[D];simp only[F,rdF];rw[zi (by simp),zi (by omega),C];simp[kQ.list,It.count,yg]
  replace c:=qh c;obtain⟨rfl,Z,cF⟩:=c;have H:tx=⟨#[]⟩:=by
   have:tx.size=0:=by simpa[formed]using u
   exact aF (by simp[zo ((aa tx).trans this)])
  subst H;have m:∀j (h:j<l.length),(Ty.mk 5 z l d).at (0+j)=l[j]:=fun j h=>by unfold Ty.at;simp[h]
  obtain⟨U,S⟩:=uC rfl;simp only[It.gE,Ty.gE,Ty.CJ]at U S;simp only[It.count]at I;have C:=Kn (M:=M) (t:= .mk 5 z l d) l s ((l.length:Int)-d).toNat 0 (n+1) q m (by omega) Z U S (fun j w G n q L=>by
   have i:=zD w;have e:=A j w;have X:=m j G;rw[zJ]at X;rw[X]at e;have r:=Fa N j G;have J:=eF R j G;generalize l[j]=a at*;obtain⟨ak,az,al,at_⟩:=a;exact ih _ i _ n q J (lI r).2 (mV r e q) e (Y _ i) L) (by omega)
  rw[mW,uv o];rw[C];simp[kQ.list,It.count,yg]
structure Tg (M:Int)(t:Ty)(n:Nat)(r:List UInt8)(R:Ss):Prop where
 dy:R.x.dy t=true
 right:R.x.right=true
 num:R.n=n+R.x.count
 many:(R.n:Int)<=M
 lay:r=R.x.lay t++R.q
 deep:R.x.deep<=t.deep
structure Vk (M:Int)(t:Ty)(i n:Nat)(r:List UInt8)(R:kQ):Prop where
 dy:dK R.xs t i=true
 right:dg R.xs=true
 num:R.n=n+aC R.xs
 many:(R.n:Int)<=M
 lay:r=cl R.xs t i++R.q
theorem Fb {a t:Ty}{f:Nat->List UInt8->Ss}(l:∀n r,(f n r).e=0->Tg M a n r (f n r)):∀(c i n:Nat) (r:List UInt8),(∀j,t.at (i+j)=a)->(n:Int)<=M->(tH f c n r).e=0->
 Vk M t i n r (tH f c n r)/\(tH f c n r).xs.length=c/\cH (tH f c n r).xs<=a.deep
 |0,i,n,r,_,hM,_=>⟨⟨rfl,rfl,by simp[tH,aC],hM,by simp[tH,cl]⟩,rfl,by simp[tH,cH]⟩
 |c+1,i,n,r,ha,hM,h=>by
  rw[tH]at h⊢;by_cases e:(f n r).e=0
  ·rw[zi (by simp[e])]at h⊢;have b:=l n r e;obtain⟨d,m,q⟩:=Fb l c (i+1) (f n r).n (f n r).q (fun j=>by have:=ha (j+1);rwa [show i+(j+1)=i+1+j from by omega]at this) b.many h;have k:=ha 0;rw[xe]at k;refine⟨⟨?_, ?_, ?_,d.many, ?_⟩,by simp[kQ.cons,m], ?_⟩
   ·simp only[kQ.cons,dK,k,b.dy,d.dy,Bool.and_self]
   ·simp only[kQ.cons,dg,b.right,d.right,Bool.and_self]
   ·have p:=d.num;have o:=b.num;simp only[kQ.cons,aC];omega
   ·simp only[kQ.cons,cl,k,zC];rw[<-d.lay];exact b.lay
   simp only[kQ.cons,cH];have:=b.deep;omega
  rw[zj (by simpa using e)]at h;exact absurd h e
theorem Fc {t:Ty}:∀(c:List Ty) (m i n:Nat) (r:List UInt8),(∀j (h:j<c.length),t.at (i+j)=c[j])->(∀a∈c,∀n r,(a.rd M n r).e=0->Tg M a n r (a.rd M n r))->(n:Int)<=M->m<=c.length->(nQ M c m n r).e=0->
 Vk M t i n r (nQ M c m n r)/\m<=(nQ M c m n r).xs.length/\(nQ M c m n r).xs.length<=c.length/\cH (nQ M c m n r).xs<=dD c
 | [],m,i,n,r,_,_,hM,hm,_=>⟨⟨rfl,rfl,by simp[nQ,aC],hM,by simp[nQ,cl]⟩,by simpa[nQ]using hm,by simp[nQ],by simp[nQ,cH]⟩
 |a::c,m,i,n,r,ha,hf,hM,hm,h=>by
  rw[nQ]at h⊢;by_cases hz:m=0/\r= []
  ·rw[zj hz];obtain⟨rfl,rfl⟩:=hz;exact⟨⟨rfl,rfl,by simp[aC],hM,by simp[cl]⟩,by simp,by simp,by simp[cH]⟩
  rw[zi hz]at h⊢;by_cases k:(a.rd M n r).e=0
  ·rw[zi (by simp[k])]at h⊢;have d:=hf a (by simp) n r k;obtain⟨e,u,x,s⟩:=Fc c (m-1) (i+1) (a.rd M n r).n (a.rd M n r).q (fun j p=>by have:=ha (j+1) (by simpa using p);simpa[show i+(j+1)=i+1+j from by omega]using this) (fun b o=>hf b (by simp[o])) d.many (by simp at hm;omega) h;have l:=ha 0 (by simp);simp only[xe,yS]at l;refine⟨⟨?_, ?_, ?_,e.many, ?_⟩,by simp only[kQ.cons,zz];omega,by simp only[kQ.cons,zz];omega, ?_⟩
   ·simp only[kQ.cons,dK,l,d.dy,e.dy,Bool.and_self]
   ·simp only[kQ.cons,dg,d.right,e.right,Bool.and_self]
   ·have w:=e.num;have q:=d.num;simp only[kQ.cons,aC];omega
   ·simp only[kQ.cons,cl,l,zC];rw[<-e.lay];exact d.lay
   simp only[kQ.cons,cH,dD];have:=d.deep;omega
  rw[zj (by simpa using k)]at h;exact absurd h k
theorem Th {l:List Ty}{b:ByteArray}(e:(b.size:Int)<=z)(c:gW b.data.toList=false):qZ (.mk 1 z l d) b false m=true:=by
 show(!false&&decide ((b.size:Int)<=z)&& !gW b.data.toList)=true
 rw[c,zF e];rfl
theorem Ti {l:List Ty}{c:Int}{b:ByteArray}(d:(b.size:Int)=z):qZ (.mk 2 z l c) b false m=true:=by
 show(!false&&decide ((b.size:Int)=z))=true
 rw[zF d];rfl
theorem Md {l:List Ty}{c:Int}{b:ByteArray}(d:(b.size:Int)<=z):qZ (.mk 3 z l c) b false m=true:=by
 show(!false&&decide ((b.size:Int)<=z))=true
 rw[zF d];rfl
theorem Pb {l:List Ty}{b:Int}{d:ByteArray}(c:(m:Int)<=z):qZ (.mk 4 z l b) d true m=true:=by
 show(true&&decide ((m:Int)<=z))=true
 rw[zF c];rfl
theorem Pc {l:List Ty}{b:Int}{e:ByteArray}(d:m<=l.length)(c:(l.length:Int)-b<=m):qZ (.mk 5 z l b) e true m=true:=by
 show(true&&decide (m<=l.length)&&decide ((l.length:Int)-b<=m))=true
 rw[zF d,zF c];rfl
theorem Iv (n:Nat):gW (cE n)=false:=by
 by_cases h:n=0
 ·subst h;rw[dj];rfl
 cases hl:cE n with
 |nil=>rfl
 |cons b t=>
  have h1:=BJ n h;rw[hl]at h1;show(b==0)=false
  exact zp.2 (by simpa using h1)
theorem Me (M:Int)(L:M<=1024)(t:Ty):∀(n:Nat) (r:List UInt8),t.right=true->(t.rd M n r).e=0->Tg M t n r (t.rd M n r):=by
 induction t using Ty.ind with
 |h k z l ta ih=>
  intro n r E h;obtain⟨G,w⟩:=jB E;by_cases d:M<=(n:Int)
  ·rw[Kp d]at h;cases h
  rcases ka G with⟨rfl,K,m,p⟩|⟨rfl,u,s,m,p⟩|⟨rfl,u,s,m,p⟩|⟨rfl,u,s,m,p⟩|⟨rfl,u,s,J,I⟩
  ·rw[Is d]at h⊢;by_cases c:r.length<z.toNat
   ·rw[zj c]at h;cases h
   rw[zi c];have y:=jy (r.take z.toNat);have i:(r.take z.toNat).length=z.toNat:=by rw[zU];omega
   rw[i]at y;have N:=gp z.toNat _ y;refine⟨?_,rfl,by simp[It.count,aC],by simp only;omega, ?_, ?_⟩
   ·simp only[It.dy,dK,Zm];exact Th (by rw[bG];omega) (by simpa using Iv _)
   ·rw[ur];simp only;have e:=OZ (r.take z.toNat);rw[i]at e;rw[Kj,e,zH]
   simp[It.deep,cH,Ty.deep]
  ·rw[Iu d]at h⊢;by_cases c:r.length<z.toNat
   ·rw[zj c]at h;cases h
   rw[zi c];have i:(r.take z.toNat).length=z.toNat:=by rw[zU];omega
   refine⟨?_,rfl,by simp[It.count,aC],by simp only;omega, ?_, ?_⟩
   ·simp only[It.dy,dK,Zm];exact Ti (by rw[bG];omega)
   ·rw[uu];simp only;rw[zH]
   simp[It.deep,cH,Ty.deep]
  ·rw[vy d]at h⊢;by_cases b:(au r).2.2≠0
   ·rw[zj b]at h;exact absurd h b
   rw[zi b]at h⊢;by_cases hz:z<((au r).1:Int)
   ·rw[zj hz]at h;cases h
   rw[zi hz]at h⊢;by_cases c:(r.drop (au r).2.1).length<(au r).1
   ·rw[zj c]at h;cases h
   rw[zi c];obtain⟨H,A,q,B⟩:=iK r (au r).1 (au r).2.1 (by rw[<-zE.1 b]);generalize au r=C at*;have i:((r.drop C.2.1).take C.1).length=C.1:=by rw[zU];omega
   refine⟨?_,rfl,by simp[It.count,aC],by simp only;omega, ?_, ?_⟩
   ·simp only[It.dy,dK,Zm];exact Md (by rw[bG];omega)
   ·rw[nR];simp only;rw[show(⟨((r.drop C.2.1).take C.1).toArray⟩:ByteArray).size=C.1 from by rw[bG,i],<-q,zC,zH,zH]
   simp[It.deep,cH,Ty.deep]
  ·rw[CT d]at h⊢;by_cases b:(au r).2.2≠0
   ·rw[zj b]at h;exact absurd h b
   rw[zi b]at h⊢;by_cases hz:z<((au r).1:Int)
   ·rw[zj hz]at h;cases h
   rw[zi hz]at h⊢;obtain⟨H,A,q,B⟩:=iK r (au r).1 (au r).2.1 (by rw[<-zE.1 b]);generalize au r=C at*;obtain⟨a,rfl⟩:=Yn.1 m;have o:∀j,(Ty.mk 4 z [a] ta).at j=a:=fun j=>by unfold Ty.at;simp
   have F:a.right=true:=by simpa[bQ]using w
   simp only[rdF,kQ.list]at h⊢;obtain⟨g1,g2,g3⟩:=Fb (M:=M) (a:=a) (t:= .mk 4 z [a] ta) (fun n r h=>ih a (by simp) n r F h) C.1 0 (n+1) (r.drop C.2.1) (fun j=>o _) (by omega) h;generalize tH (fun n r=>a.rd M n r) C.1 (n+1) (r.drop C.2.1)=R at*;refine⟨?_, ?_, ?_,g1.many, ?_, ?_⟩
   ·simp only[It.dy,g1.dy,Zm];exact Pb (by rw[g2];omega)
   ·simp[It.right,g1.right,formed,ByteArray.size]
   ·simp only[It.count,g1.num];omega
   ·rw[qi,zC,<-g1.lay,g2,<-q,zH]
   simp only[It.deep,Ty.deep,dD];omega
  rw[uv d]at h⊢;have o:∀j (h:j<l.length),(Ty.mk 5 z l ta).at (0+j)=l[j]:=fun j h=>by unfold Ty.at;simp[h]
  simp only[kQ.list]at h⊢;obtain⟨g1,g2,g3,g4⟩:=Fc (M:=M) (t:= .mk 5 z l ta) l ((l.length:Int)-ta).toNat 0 (n+1) r o (fun a x n r h=>by
   obtain⟨j,D,rfl⟩:=yY x;exact ih _ x n r (eF w j D) h) (by omega) (by omega) h
  generalize nQ M l ((l.length:Int)-ta).toNat (n+1) r=R at*;refine⟨?_, ?_, ?_,g1.many, ?_, ?_⟩
  ·simp only[It.dy,g1.dy,Zm];exact Pc g3 (by omega)
  ·simp[It.right,g1.right,formed,ByteArray.size]
  ·simp only[It.count,g1.num];omega
  ·rw[mW];exact g1.lay
  simp only[It.deep,Ty.deep];omega
def il (t:Ty)(x:It)(M:Int):Int:=if t.flat=false then 1 else if dZ t x≠0 then dZ t x else if M<x.count then 4 else 0
def lZ (t:Ty)(x:It)(M:Int):ByteArray×Int:=if il t x M=0 then(⟨(x.lay t).toArray⟩,0)else(⟨#[]⟩,il t x M)
def oo (t:Ty)(s:ByteArray)(M:Int):Ss:=t.rd (min M 1024) 0 s.data.toList
def dh (t:Ty)(s:ByteArray)(M:Int):Int×It×Nat:=if t.flat=false then(1,kx,0)else if(oo t s M).e≠0 then((oo t s M).e,kx,0)else(0,(oo t s M).x,s.size-(oo t s M).q.length)
def jD (t:Ty)(s:ByteArray)(M:Int):Int×It:=if(dh t s M).1≠0 then((dh t s M).1,kx)else if(dh t s M).2.2<s.size then(3,kx)else(0,(dh t s M).2.1)
mutual
def Ty.low :Ty->Int
 | .mk k z l _=>if k=1\/k=2 then z else if k=3\/k=4 then 1 else ab8 l
def ab8 :List Ty->Int
 | []=>0
 |x::xs=>x.low+ab8 xs
end
theorem jE {t:Ty}(h:t.flat=true):t.may=true/\t.right=true/\t.count<=64/\t.deep<=8/\ca t.sub=true:=by
 simp only[Ty.flat,zy]at h;obtain⟨c,b,d⟩:=OU h.1;exact⟨h.1,d,c,b,h.2⟩
theorem rH {t:Ty}{x:It}(h:dZ t x=0):t.may=true/\x.may=true/\x.dy t=true:=by
 unfold dZ at h;cases h1:t.may<;>cases h2:x.may<;>cases h3:x.dy t<;>simp_all
theorem WJ {t:Ty}{x:It}(c:t.may=true)(b:x.may=true)(d:x.dy t=true):dZ t x=0:=by
 unfold dZ;simp[c,b,d]
theorem sN {x:It}(h:x.may=true):x.right=true/\x.deep<=16/\x.count<=1024:=by
 simpa only[It.may,zy,zY,and_assoc]using h
theorem Pd {x:It}(c:x.right=true)(b:x.deep<=16)(d:x.count<=1024):x.may=true:=by
 simp only[It.may,zy,zY];exact⟨⟨c,b⟩,d⟩
theorem rI {t:Ty}{x:It}(h:il t x M=0):t.flat=true/\dZ t x=0/\(x.count:Int)<=M:=by
 unfold il at h;cases h1:t.flat with
 |false=>rw[zj h1]at h;cases h
 |true=>
  rw[zi (by simp[h1])]at h;by_cases b:dZ t x≠0
  ·rw[zj b]at h;exact absurd h b
  rw[zi b]at h;by_cases c:M<x.count
  ·rw[zj c]at h;cases h
  exact⟨rfl,zE.1 b,by omega⟩
theorem Fe (t:Ty)(s:ByteArray)(M:Int)(h:(dh t s M).1=0):il t (dh t s M).2.1 M=0/\(dh t s M).2.2<=s.size/\(dh t s M).2.1.lay t=s.data.toList.take (dh t s M).2.2:=by
 unfold dh at h⊢;cases h1:t.flat with
 |false=>rw[zj h1]at h;cases h
 |true=>
  rw[zi (by simp[h1])]at h⊢;by_cases c:(oo t s M).e≠0
  ·rw[zj c]at h;exact absurd h c
  rw[zi c];obtain⟨e,d,n,j,l⟩:=jE h1;have b:=Me (min M 1024) (by omega) t 0 s.data.toList d (zE.1 c);change Tg (min M 1024) t 0 s.data.toList (oo t s M)at b
  generalize oo t s M=R at*;have i:=yp List.length b.lay;rw[zk,aa]at i;have m:=b.many;have k:=b.num;have hd:=b.deep;refine⟨?_,by simp only;omega, ?_⟩
  ·unfold il;simp only;rw[zi (by simp[h1]),WJ e (Pd b.right (by omega) (by omega)) b.dy,zi (by simp),zi (by omega)]
  simp only;rw[b.lay,show s.size-R.q.length=(R.x.lay t).length from by omega,ZN rfl]
theorem Iw (t:Ty)(s:ByteArray)(M:Int)(h:(jD t s M).1=0):il t (jD t s M).2 M=0/\(jD t s M).2.lay t=s.data.toList:=by
 unfold jD at h⊢;by_cases b:(dh t s M).1≠0
 ·rw[zj b]at h;exact absurd h b
 rw[zi b]at h⊢;by_cases c:(dh t s M).2.2<s.size
 ·rw[zj c]at h;cases h
 rw[zi c];obtain⟨d,a2,a3⟩:=Fe t s M (zE.1 b);refine⟨d, ?_⟩;rw[a3,zx (by rw[aa];omega)]
def gK (xs:List It):It:= .mk ByteArray.empty true xs
def fin (D M:Int)(s:ByteArray):List It->Nat->List (List It×Nat)->Nat->Nat->Rd
 |acc,en,[],at_,count=>
  if(cQ D M (s.extract at_ en) 2 count).e≠0 then Rd.bad (cQ D M (s.extract at_ en) 2 count).e
  else⟨gK (acc++(cQ D M (s.extract at_ en) 2 count).xs),en,count+(cQ D M (s.extract at_ en) 2 count).items,0⟩
 |acc,en,f::rest,at_,count=>
  if(cQ D M (s.extract at_ en) (rest.length+3) count).e≠0 then Rd.bad (cQ D M (s.extract at_ en) (rest.length+3) count).e
  else fin D M s (f.1++ [gK (acc++(cQ D M (s.extract at_ en) (rest.length+3) count).xs)]) f.2 rest en (count+(cQ D M (s.extract at_ en) (rest.length+3) count).items)
def Mf (D M:Int)(s:ByteArray)(acc:List It)(en:Nat)(rest:List (List It×Nat))(count:Nat)(R:Kl):Rd:=
 if R.e≠0 then Rd.bad R.e
 else match rest with
  | []=>⟨gK (acc++R.xs),en,count+R.items,0⟩
  |f::rest=>fin D M s (f.1++ [gK (acc++R.xs)]) f.2 rest en (count+R.items)
theorem vz (D M:Int)(s:ByteArray)(acc:List It)(b:Nat)(rest:List (List It×Nat))(at_ count:Nat):fin D M s acc b rest at_ count=Mf D M s acc b rest count (cQ D M (s.extract at_ b) (rest.length+2) count):=by
 cases rest with
 |nil=>rw[fin];rfl
 |cons f rest=>rw[fin];rfl
theorem CU (s:ByteArray)(a b i j:Nat)(c:a+j<=b):(s.extract a b).extract i j=s.extract (a+i) (a+j):=by
 apply aF;rw[aq,aq,aq,List.take_drop,xw,xu,yG (by omega)]
theorem BM (D M:Int)(s:ByteArray)(acc:List It)(c:Nat)(rest:List (List It×Nat))(count k:Nat)(x:It)(R R':Kl)(h:R=(if R'.e≠0 then Kl.bad R'.e else⟨x::R'.xs,k+R'.items,0⟩)):
 Mf D M s acc c rest count R=Mf D M s (acc++ [x]) c rest (count+k) R':=by
 subst h;unfold Mf;by_cases b:R'.e≠0
 ·rw[zj b,zj b,zj (by exact b)];rfl
 rw[zi b,zi b,zi (by simp)];cases rest with
 |nil=>simp[yg]
 |cons f rest=>simp[yg]
theorem Mg (D M:Int):∀(z:Nat) (s:ByteArray) (deep ahead:Nat),s.size<=z->(cQ D M s deep ahead).e≠2:=by
 intro z;induction z with
 |zero=>intro s deep ahead h;rw[js _ _ _ _ _ (by omega)];simp
 |succ z ih=>
  intro s deep ahead h;by_cases d:s.size=0
  ·rw[js _ _ _ _ _ d];simp
  rw[ik D M s deep ahead d _ rfl];have b:=mU D M (2*s.size+2) s deep ahead;change(bq D M s deep ahead).e=0->1<=(bq D M s deep ahead).size/\(bq D M s deep ahead).size<=s.size at b
  generalize bq D M s deep ahead=R at*;by_cases c:R.e≠0
  ·rw[zj c];show within R.e≠2
   unfold within;split<;>omega
  rw[zi c];have b:=b (zE.1 c);have i:(s.extract R.size s.size).size=s.size-R.size:=ar _ _ _ (zd _);have e:=ih (s.extract R.size s.size) deep (ahead+R.items) (by omega);split
  ·exact e
  simp
theorem Tj (D M:Int)(s:ByteArray)(acc:List It)(b:Nat)(rest:List (List It×Nat))(at_ count:Nat)(i:at_<b)(h:b<=s.size)(H:Bool×Nat×Nat×Int)
 (d:hd (s.extract at_ b) (aG D (rest.length+2)) (aH M count)=H) (c:H.2.2.2≠0):fin D M s acc b rest at_ count=Rd.bad (within H.2.2.2):=by
 have hz:(s.extract at_ b).size=b-at_:=ar _ _ _ h;have e:within H.2.2.2≠0:=by unfold within;split<;>simp_all
 rw[vz,ik D M _ _ _ (by omega) _ rfl,dM D M _ _ _ H d,zj c,zj (show(Rd.bad H.2.2.2).e≠0 from c)];unfold Mf;rw[zj (show(Kl.bad (within (Rd.bad H.2.2.2).e)).e≠0 from e)];rfl
theorem Pe (D M:Int)(s:ByteArray)(acc:List It)(b:Nat)(rest:List (List It×Nat))(at_ count:Nat)(k:at_<b)(i:b<=s.size)(H:Bool×Nat×Nat×Int)
 (d:hd (s.extract at_ b) (aG D (rest.length+2)) (aH M count)=H) (e:H.2.2.2=0) (h:H.1=false):
 fin D M s acc b rest at_ count=fin D M s (acc++ [.mk (s.extract (at_+H.2.1) (at_+H.2.1+H.2.2.1)) false []]) b rest (at_+H.2.1+H.2.2.1) (count+1)/\at_+H.2.1+H.2.2.1<=b:=by
 have hz:(s.extract at_ b).size=b-at_:=ar _ _ _ i;have c:=sL (s.extract at_ b) (aG D (rest.length+2)) (aH M count);rw[d]at c;have c:=c e;refine⟨?_,by omega⟩;have j:bq D M (s.extract at_ b) (rest.length+2) count=⟨.mk ((s.extract at_ b).extract H.2.1 (H.2.1+H.2.2.1)) false [],H.2.1+H.2.2.1,1,0⟩:=by
  rw[dM D M _ _ _ H d,zi (show¬H.2.2.2≠0 by simp[e]),zj h]
 rw[vz,vz];refine BM D M s acc b rest count 1 _ _ _ ?_;rw[ik D M _ _ _ (by omega) _ j];dsimp only;rw[zi (by simp),hz,CU s at_ b _ _ (by omega),CU s at_ b _ _ (by omega),show at_+(b-at_)=b from by omega,yg]
theorem Pf (D M:Int)(s:ByteArray)(acc:List It)(b:Nat)(rest:List (List It×Nat))(at_ count:Nat)(o:at_<b)(l:b<=s.size)(H:Bool×Nat×Nat×Int)
 (e:hd (s.extract at_ b) (aG D (rest.length+2)) (aH M count)=H) (j:H.2.2.2=0) (i:H.1=true):
 fin D M s acc b rest at_ count=fin D M s [] (at_+H.2.1+H.2.2.1) ((acc,b)::rest) (at_+H.2.1) (count+1)/\at_+H.2.1+H.2.2.1<=b/\1<=H.2.1:=by
 have hz:(s.extract at_ b).size=b-at_:=ar _ _ _ l;have d:=sL (s.extract at_ b) (aG D (rest.length+2)) (aH M count);rw[e]at d;have d:=d j;refine⟨?_,by omega,d.2.2.2 i⟩;have h:=dM D M (s.extract at_ b) (rest.length+2) count H e;rw[zi (show¬H.2.2.2≠0 by simp[j]),zi (show¬H.1=false by simp[i]),CU s at_ b _ _ (by omega),<-yg,show rest.length+2+1=rest.length+3 from by omega]at h;rw[vz,ik D M _ _ _ (by omega) _ h,fin];have n:=Mg D M (s.extract (at_+H.2.1) (at_+H.2.1+H.2.2.1)).size (s.extract (at_+H.2.1) (at_+H.2.1+H.2.2.1)) (rest.length+3) (count+1) (zd _);generalize cQ D M (s.extract (at_+H.2.1) (at_+H.2.1+H.2.2.1)) (rest.length+3) (count+1)=R at*;by_cases c:R.e≠0
 ·have k:within R.e≠0:=by unfold within;split<;>simp_all
  have m:within R.e=R.e:=by unfold within;rw[zi n]
  rw[zj c,zj (show(Rd.bad R.e).e≠0 from c)];unfold Mf;rw[zj (show(Kl.bad (within (Rd.bad R.e).e)).e≠0 from k)];show Rd.bad (within R.e)=_
  rw[m,zj c]
 rw[zi c];dsimp only;rw[zi (by simp),vz,hz,CU s at_ b _ _ (by omega),show at_+(b-at_)=b from by omega,<-yg];refine(BM D M s acc b rest count (1+R.items) (gK R.xs) _ _ rfl).trans ?_;rw[zi c];simp[gK,yg]
theorem Mh (D M:Int)(s:ByteArray)(acc:List It)(b:Nat)(f:List It×Nat)(rest:List (List It×Nat))(count:Nat)(c:b<=s.size):fin D M s acc b (f::rest) b count=fin D M s (f.1++ [gK acc]) f.2 rest b count:=by
 rw[fin,js _ _ _ _ _ (by rw[ar _ _ _ c];omega)];simp
theorem Pg (D M:Int)(s:ByteArray)(acc:List It)(b:Nat)(count:Nat)(c:b<=s.size):fin D M s acc b [] b count=⟨gK acc,b,count,0⟩:=by
 rw[fin,js _ _ _ _ _ (by rw[ar _ _ _ c];omega)];simp
theorem rJ (D M:Int)(s:ByteArray)(H:Bool×Nat×Nat×Int)(c:hd s (aG D 1) (aH M 0)=H):
 (H.2.2.2≠0->bq D M s 1 0=Rd.bad H.2.2.2)/\(H.2.2.2=0->H.1=false->bq D M s 1 0=⟨.mk (s.extract H.2.1 (H.2.1+H.2.2.1)) false [],H.2.1+H.2.2.1,1,0⟩)/\
 (H.2.2.2=0->H.1=true->bq D M s 1 0=fin D M s [] (H.2.1+H.2.2.1) [] H.2.1 1):=by
 refine⟨fun h=> ?_,fun h b=> ?_,fun h b=> ?_⟩
 ·rw[dM D M s 1 0 H c,zj h]
 ·rw[dM D M s 1 0 H c,zi (by simp[h]),zj b]
 rw[dM D M s 1 0 H c,zi (by simp[h]),zi (by simp[b]),fin];simp only[zJ];split
 ·rfl
 simp[gK]
theorem ee (b n:Nat):(cA b n).length=if n<=55 then 1 else 1+(cE n).length:=by unfold cA;split<;>simp;omega
theorem Ff (s:ByteArray)(b n:Nat)(r:List UInt8)(w:b=128\/b=192)(c:s.data.toList=cA b n++r)(y:n<=r.length)(q:n<18446744073709551616)(u:b=128->n=1->128<=(r.getD 0 0).toNat):
 BK s=(decide (b=192),(cA b n).length,n,0):=by
 have hz:s.size=(cA b n).length+r.length:=by rw[<-aa,c,zk]
 rw[ee]at hz⊢;by_cases h:n<=55
 ·rw[zj h]at hz⊢;rw[cA,zj h]at c;have d:(s.data.toList.getD 0 0).toNat=b+n:=by rw[c,ZA,ZR,bn _ (by omega)]
  have j:s.data.toList.getD 1 0=r.getD 0 0:=by rw[c,ZA,List.getD_cons_succ]
  unfold BK;rw[d,j];dsimp only;have k:(if 192<=b+n then b+n-192 else b+n-128)=n:=by split<;>omega
  have i:decide (192<=b+n)=decide (b=192):=by rw[yP];simp;omega
  rw[zi (by omega),k,i];simp only[zj h];rw[zi (by omega),zi];rintro⟨l,a2,a3⟩;have a4:b=128:=by
   have:b≠192:=by simpa using l
   omega
  have:=u a4 a2;omega
 rw[zi h]at hz⊢;rw[cA,zi h]at c;have z:=gp 8 n (by simpa using q);have x:1<=(cE n).length:=by
  have:=Kk n (by omega);cases hl:cE n with
  |nil=>exact absurd hl this
  |cons a b=>simp
 have m:=BJ n (by omega);have d:(s.data.toList.getD 0 0).toNat=b+55+(cE n).length:=by rw[c,zW,ZR,bn _ (by omega)]
 have j:s.data.toList.getD 1 0=(cE n).getD 0 0:=by
  rw[c,zW,List.getD_cons_succ,zw,xA (by omega),<-zw]
 have o:(s.extract 1 (1+(cE n).length)).data.toList=cE n:=by
  rw[aq,c,zW,Zw 1,zR,ya,zL,zV (zd _),ZE]
 have A:((cE n).getD 0 0).toNat≠0:=fun e=>m (zT.1 e)
 unfold BK;rw[d,j];dsimp only;have k:(if 192<=b+55+(cE n).length then b+55+(cE n).length-192 else b+55+(cE n).length-128)=55+(cE n).length:=by split<;>omega
 have i:decide (192<=b+55+(cE n).length)=decide (b=192):=by rw[yP];simp;omega
 rw[zi (by omega),k,i];have p:¬55+(cE n).length<=55:=by omega
 simp only[zi p,Nat.add_sub_cancel_left,o,Kj];rw[zi (by omega),zi (by omega),zi (by omega)]
theorem WK (s:ByteArray)(z:0<s.size)(H:Bool×Nat×Nat×Int)(w:BK s=H)(c:H.2.2.2=0):
 (H=(false,0,1,0)/\(s.data.toList.getD 0 0).toNat<128)\/
 (s.data.toList.take H.2.1=cA (if H.1=true then 192 else 128) H.2.2.1/\1<=H.2.1/\H.2.1=(cA (if H.1=true then 192 else 128) H.2.2.1).length/\¬(H.1=false/\H.2.2.1=1/\(s.data.toList.getD H.2.1 0).toNat<128)):=by
 subst w;have p:s.data.toList=s.data.toList.getD 0 0::s.data.toList.drop 1:=by
  have:=drop_cons s 0 z;rw[zL]at this;rw[this];simp
 unfold BK at c⊢;dsimp only at c⊢;have x:=(s.data.toList.getD 0 0).toNat_lt;have m:ub (((s.data.toList.getD 0 0).toNat:Nat):Int)=s.data.toList.getD 0 0:=by
  apply zT.1;rw[bn _ x]
 generalize C:(s.data.toList.getD 0 0).toNat=b at*;by_cases l:b<128
 ·rw[zj l];exact .inl ⟨rfl,l⟩
 rw[zi l]at c⊢;right;generalize o:(if 192<=b then b-192 else b-128)=d at*;have u:(if decide (192<=b)=true then 192 else 128)+d=b:=by
  rw[<-o];by_cases h:192<=b<;>simp[h];omega
 have D:d<=63:=by rw[<-o];split<;>omega
 by_cases k:d<=55
 ·simp only[zj k]at c⊢;by_cases i:s.size<1+d
  ·rw[zj i]at c;simp at c
  rw[zi i]at c⊢;split at c
  ·simp at c
  rename_i j
  rw[zi j];dsimp only;refine⟨?_,zd _, ?_,j⟩
  ·rw[p,zR,yv,cA,zj k,u,m]
  rw[ee,zj k]
 simp only[zi k]at c⊢;by_cases i:s.size<1+(d-55)
 ·rw[zj i]at c;simp at c
 rw[zi i]at c⊢;split at c
 ·simp at c
 rename_i j
 rw[zi j];split at c
 ·simp at c
 rename_i B
 rw[zi B];dsimp only;have A:(s.data.toList.getD 1 0).toNat≠0:=by omega
 have y:(s.extract 1 (1+(d-55))).data.toList=(s.data.toList.drop 1).take (d-55):=by rw[aq,List.take_drop]
 have q:((s.data.toList.drop 1).take (d-55)).length=d-55:=by rw[zU,zP,aa];omega
 have r:cE (mr (s.extract 1 (1+(d-55))).data.toList)=(s.data.toList.drop 1).take (d-55):=by
  rw[y];refine EZ _ ?_;rw[zw,yr (by omega),xa,<-zw];intro e;apply A;rw[show 1+0=1 from rfl]at e;rw[e];rfl
 generalize mr (s.extract 1 (1+(d-55))).data.toList=n at*;refine⟨?_,by omega, ?_, ?_⟩
 ·rw[cA,zi (by omega),r,q];rw[p,Zw 1 (d-55),zR,ya,zL];congr 1
  rw[<-m];congr 2;omega
 ·rw[ee,zi (by omega),r,q]
 omega
theorem Vl (s:ByteArray)(d m:Bool)(h:(hd s d m).2.2.2=0):0<s.size/\d=false/\m=false/\hd s d m=BK s:=by
 unfold hd at h⊢;by_cases e:s.size=0
 ·rw[zj e]at h;simp at h
 rw[zi e]at h⊢;by_cases c:d=true
 ·rw[zj c]at h;simp at h
 rw[zi c]at h⊢;by_cases b:m=true
 ·rw[zj b]at h;simp at h
 rw[zi b];exact⟨by omega,by simpa using c,by simpa using b,rfl⟩
theorem vA {D:Int}{deep:Nat}:aG D deep=false↔(deep:Int)<=D/\deep<=16:=by simp[aG]
theorem o8 {ahead:Nat}:aH M ahead=false↔(ahead:Int)+1<=M/\ahead+1<=1024:=by simp[aH]
structure ab9 (D M:Int)(x:It)(l:List UInt8)(deep ahead items:Nat):Prop where
 fy:x.fy=l
 right:x.right=true
 items:items=x.count
 deepD:(deep:Int)+x.deep<=D+1
 deep16:deep+x.deep<=17
 manyM:(ahead:Int)+x.count<=M
 many:ahead+x.count<=1024
structure Vm (D M:Int)(xs:List It)(l:List UInt8)(deep ahead items:Nat):Prop where
 fy:fo xs=l
 right:dg xs=true
 items:items=aC xs
 deepD:xs≠ []->(deep:Int)+cH xs<=D+1
 deep16:xs≠ []->deep+cH xs<=17
 manyM:xs≠ []->(ahead:Int)+aC xs<=M
 many:xs≠ []->ahead+aC xs<=1024
theorem Ph (x:It):1<=x.deep:=by cases x;simp[It.deep]
theorem Tk (D M:Int):∀(z:Nat),(∀(s:ByteArray) (deep ahead:Nat),s.size<=z->(bq D M s deep ahead).e=0->ab9 D M (bq D M s deep ahead).x (s.data.toList.take (bq D M s deep ahead).size) deep ahead (bq D M s deep ahead).items)/\
 (∀(s:ByteArray) (deep ahead:Nat),s.size<=z->(cQ D M s deep ahead).e=0->Vm D M (cQ D M s deep ahead).xs s.data.toList deep ahead (cQ D M s deep ahead).items):=by
 have G:∀(s:ByteArray) (deep ahead:Nat),s.size=0->Vm D M (cQ D M s deep ahead).xs s.data.toList deep ahead (cQ D M s deep ahead).items:=by
  intro s deep ahead h;rw[js _ _ _ _ _ h];have:s.data.toList= []:=zo (by rw[aa];exact h);rw[this];exact⟨rfl,rfl,rfl,by simp,by simp,by simp,by simp⟩
 intro z;induction z with
 |zero=>
  refine⟨fun s deep ahead hz d=> ?_,fun s deep ahead hz _=>G s deep ahead (by omega)⟩;rw[dM D M s deep ahead _ rfl]at d;have:hd s (aG D deep) (aH M ahead)=(false,0,0,2):=by simp[hd,show s.size=0 by omega]
  rw[this]at d;simp[Rd.bad]at d
 |succ z ih=>
  obtain⟨ad,K⟩:=ih;have J:∀(s:ByteArray) (deep ahead:Nat),s.size<=z+1->(bq D M s deep ahead).e=0->ab9 D M (bq D M s deep ahead).x (s.data.toList.take (bq D M s deep ahead).size) deep ahead (bq D M s deep ahead).items:=by
   intro s deep ahead hz d;have c:=dM D M s deep ahead _ rfl;have o:=Vl s (aG D deep) (aH M ahead);have n:=sL s (aG D deep) (aH M ahead);generalize hd s (aG D deep) (aH M ahead)=H at*;by_cases j:H.2.2.2≠0
   ·rw[zj j]at c;rw[c]at d;exact absurd d j
   have E:=zE.1 j;obtain⟨X,U,Y,S⟩:=o E;obtain⟨_,N,Yv,ab⟩:=n E;obtain⟨d1,d2⟩:=vA.1 U;obtain⟨m1,m2⟩:=o8.1 Y;have his:=WK s X H S.symm E;rw[zi j]at c;by_cases i:H.1=false
   ·rw[zj i]at c;rw[c];dsimp only;have k:(s.extract H.2.1 (H.2.1+H.2.2.1)).size=H.2.2.1:=by rw[ar _ _ _ N];omega
    have m:s.data.toList.take H.2.1++(s.extract H.2.1 (H.2.1+H.2.2.1)).data.toList=s.data.toList.take (H.2.1+H.2.2.1):=by
     rw[aq];have:=zH H.2.1 (s.data.toList.take (H.2.1+H.2.2.1));rwa [xu,yG (by omega)]at this
    refine⟨?_,by simp[It.right,formed,dg],by simp[It.count,aC],by simp[It.deep,cH];omega,by simp[It.deep,cH];omega,by simp[It.count,aC];omega,by simp[It.count,aC];omega⟩;have p:(s.extract H.2.1 (H.2.1+H.2.2.1)).data.toList.getD 0 0=if H.2.2.1=0 then 0 else s.data.toList.getD H.2.1 0:=by
     rw[aq,zw,xa];split
     ·rename_i h;rw[y8 (by rw[zU];omega)];rfl
     rw[yr (by omega),<-zw];rfl
    rcases his with⟨r,Z⟩|⟨l,h4,L,I⟩
    ·rw[r]at k m p⊢;dsimp only at*;rw[It.fy,zi (by simp),zj ⟨k,by rw[p];simpa using Z⟩,<-m];simp
    rw[It.fy,zi (by simp),zi (by rintro⟨a,b⟩;apply I;rw[k]at a;rw[p,zi (by omega)]at b;exact⟨i,a,b⟩),k,<-m,l,zi (by simp[i])]
   rw[zi i]at c;have O:H.1=true:=by simpa using i
   have k:(s.extract H.2.1 (H.2.1+H.2.2.1)).size=H.2.2.1:=by rw[ar _ _ _ N];omega
   have ae:=ab O;have hS:=K (s.extract H.2.1 (H.2.1+H.2.2.1)) (deep+1) (ahead+1) (by omega);have m:s.data.toList.take H.2.1++(s.extract H.2.1 (H.2.1+H.2.2.1)).data.toList=s.data.toList.take (H.2.1+H.2.2.1):=by
    rw[aq];have:=zH H.2.1 (s.data.toList.take (H.2.1+H.2.2.1));rwa [xu,yG (by omega)]at this
   generalize cQ D M (s.extract H.2.1 (H.2.1+H.2.2.1)) (deep+1) (ahead+1)=R at*;by_cases l:R.e≠0
   ·rw[zj l]at c;rw[c]at d;exact absurd d l
   rw[zi l]at c;rw[c];dsimp only;obtain⟨F,q,u,w,y,B,x⟩:=hS (zE.1 l);have A:R.xs= []\/R.xs≠ []:=by cases R.xs<;>simp
   refine⟨?_,by simp[It.right,formed,q],by simp[It.count,u], ?_, ?_, ?_, ?_⟩
   ·rcases his with⟨r,_⟩|⟨L,I,h7,h8⟩
    ·rw[r]at i;simp at i
    rw[It.fy,zj rfl,F,aa,k,<-m,L,zj O]
   all_goals
    rcases A with e|e
    ·rw[e];simp[It.deep,cH,It.count,aC];try omega
    first
    |(have:=w e;simp only[It.deep];omega)
    |(have:=y e;simp only[It.deep];omega)
    |(have:=B e;simp only[It.count];omega)
    |(have:=x e;simp only[It.count];omega)
  refine⟨J,fun s deep ahead hz d=> ?_⟩;by_cases o:s.size=0
  ·exact G s deep ahead o
  have c:=ik D M s deep ahead o _ rfl;have C:=J s deep ahead hz;have n:=mU D M (2*s.size+2) s deep ahead;change(bq D M s deep ahead).e=0->1<=(bq D M s deep ahead).size/\(bq D M s deep ahead).size<=s.size at n
  generalize bq D M s deep ahead=R at*;by_cases j:R.e≠0
  ·rw[zj j]at c;rw[c]at d;have:within R.e≠0:=by unfold within;split<;>simp_all
   exact absurd d this
  have C:=C (zE.1 j);have n:=n (zE.1 j);rw[zi j]at c;have af:(s.extract R.size s.size).size=s.size-R.size:=ar _ _ _ (zd _);have hS:=K (s.extract R.size s.size) deep (ahead+R.items) (by omega);generalize cQ D M (s.extract R.size s.size) deep (ahead+R.items)=T at*;by_cases i:T.e≠0
  ·rw[zj i]at c;rw[c]at d;exact absurd d i
  rw[zi i]at c;rw[c];dsimp only;obtain⟨W,a2,a3,a4,a5,a6,a7⟩:=C;obtain⟨F,q,u,w,y,B,x⟩:=hS (zE.1 i);have A:T.xs= []\/T.xs≠ []:=by cases T.xs<;>simp
  refine⟨?_,by simp[dg,a2,q],by simp[aC,a3,u],fun _=> ?_,fun _=> ?_,fun _=> ?_,fun _=> ?_⟩
  ·rw[fo,W,F,aq,cP,zH]
  all_goals
   rcases A with e|e
   ·rw[e];simp only[cH,aC];omega
   have:=w e;have:=y e;have:=B e;have:=x e;simp only[cH,aC];omega
theorem WL (D M:Int)(x:It):∀(s:ByteArray) (more:List UInt8) (deep ahead:Nat),s.data.toList=x.fy++more->s.size<18446744073709551616->x.right=true->(deep:Int)+x.deep<=D+1->deep+x.deep<=17->(ahead:Int)+x.count<=M->ahead+x.count<=1024->
 bq D M s deep ahead=⟨.mk (if x.list=true then ByteArray.empty else x.text) x.list x.sub,x.fy.length,x.count,0⟩:=by
 induction x using It.ind with
 |h t l xs ih=>
  intro s more deep ahead c aD k N O I C;have hz:s.size=(It.mk t l xs).fy.length+more.length:=by rw[<-aa,c,zk]
  have Z:=Ph (.mk t l xs);have Ah:=rz (.mk t l xs);have m:0<s.size->hd s (aG D deep) (aH M ahead)=BK s:=by
   intro h;unfold hd;rw[zi (by omega),vA.2 (by omega),o8.2 (by omega)];simp
  cases l with
  |false=>
   have X:xs= []:=by
    simp only[It.right,formed,zy]at k;exact zo (by simpa using k.1)
   subst X;rw[It.fy,zi (by simp)]at c hz⊢;by_cases i:t.size=1/\(t.data.toList.getD 0 0).toNat<128
   ·rw[zj i]at c hz⊢;rw[aa]at hz;have B:s.data.toList.getD 0 0=t.data.toList.getD 0 0:=by
     rw[c,zw,xA (by rw[aa];omega),<-zw]
    have d:hd s (aG D deep) (aH M ahead)=(false,0,1,0):=by
     rw[m (by omega)];unfold BK;rw[B];dsimp only;rw[zj i.2]
    rw[dM D M s deep ahead _ d];simp only[It.uh,It.ug,It.gE,It.count,aC];have:s.extract 0 (0+1)=t:=by
     apply aF;rw[aq,c,zL,zV (by rw[aa];omega),zx (by rw[aa];omega)]
    simp[this,i.1]
   rw[zi i]at c hz⊢;rw[zC]at c;have d:hd s (aG D deep) (aH M ahead)=(decide (128=192),(cA 128 t.size).length,t.size,0):=by
    rw[zk,aa]at hz;have F:1<=(cA 128 t.size).length:=by rw[ee];split<;>omega
    rw[m (by omega)];refine Ff s 128 t.size _ (.inl rfl) c (by simp) (by omega) ?_;intro _ w;have:((t.data.toList++more).getD 0 0)=t.data.toList.getD 0 0:=by
     rw[zw,xA (by rw[aa];omega),<-zw]
    rw[this];exact Nat.le_of_not_lt fun h=>i ⟨w,h⟩
   rw[dM D M s deep ahead _ d];simp only[It.uh,It.ug,It.gE,It.count,aC];have:s.extract (cA 128 t.size).length ((cA 128 t.size).length+t.size)=t:=by
    apply aF;rw[aq,c,<-zC,zV (by rw[zk,aa];omega),zx (by rw[zk,aa];omega),List.drop_left]
   simp[this]
  |true=>
   rw[It.fy,zj rfl]at c hz⊢;rw[zC]at c;rw[zk]at hz;have F:1<=(cA 192 (fo xs).length).length:=by rw[ee];split<;>omega
   have d:hd s (aG D deep) (aH M ahead)=(decide (192=192),(cA 192 (fo xs).length).length,(fo xs).length,0):=by
    rw[m (by omega)];exact Ff s 192 (fo xs).length _ (.inr rfl) c (by simp) (by omega) (by omega)
   have n:(s.extract (cA 192 (fo xs).length).length ((cA 192 (fo xs).length).length+(fo xs).length)).data.toList=fo xs:=by
    rw[aq,c,<-zC,zV (by rw[zk];omega),zx (by rw[zk];omega),List.drop_left]
   rw[dM D M s deep ahead _ d];simp only[It.uh,It.ug,It.gE];rw[zi (by simp),zi (by simp)];simp only[It.right,zy]at k;have q:=k.2;have R:(deep:Int)+1+cH xs<=D+1:=by simp only[It.deep]at N;omega
   have r:deep+1+cH xs<=17:=by simp only[It.deep]at O;omega
   have ab:(ahead:Int)+1+aC xs<=M:=by simp only[It.count]at I;omega
   have Y:ahead+1+aC xs<=1024:=by simp only[It.count]at C;omega
   have G:∀(b:List It),(∀y∈b,y∈xs)->∀(u:ByteArray) (a:Nat),u.data.toList=fo b->u.size<18446744073709551616->dg b=true->(deep:Int)+1+cH b<=D+1->deep+1+cH b<=17->(a:Int)+aC b<=M->a+aC b<=1024->dg b=true->
    cQ D M u (deep+1) a=⟨b,aC b,0⟩:=by
    intro b;induction b with
    |nil=>
     intro _ u a hu _ _ _ _ _ _ _;rw[js _ _ _ _ _ (by rw[<-aa,hu];rfl)];rfl
    |cons y b ihy=>
     intro p u a hu A e E K H J _;simp only[dg,zy]at e;simp only[cH]at E K;simp only[aC]at H J;rw[fo]at hu;have o:=ih y (p y (by simp)) u (fo b) (deep+1) a hu A e.1 (by omega) (by omega) (by omega) (by omega);have W:(It.mk (if y.list=true then ByteArray.empty else y.text) y.list y.sub)=y:=by
      cases y with
      |mk t' l' s'=>
       simp only[It.ug,It.uh,It.gE];cases l' with
       |false=>simp
       |true=>
        have U:t'.size=0:=by
         have:=e.1;simp only[It.right,formed,zy]at this;simpa using this.1
        have:t'=ByteArray.empty:=aF (by rw[zo (show t'.data.toList.length=0 by rw[aa];exact U)];rfl);rw[this];simp
     have j:=mU D M (2*u.size+2) u (deep+1) a;change(bq D M u (deep+1) a).e=0->1<=(bq D M u (deep+1) a).size/\(bq D M u (deep+1) a).size<=u.size at j
     rw[o]at j;have j:=j rfl;dsimp only at j;rw[ik D M u (deep+1) a (by omega) _ o];dsimp only;rw[zi (by simp)];have S:(u.extract y.fy.length u.size).data.toList=fo b:=by rw[aq,cP,hu,List.drop_left]
     have L:=ihy (fun z hz=>p z (by simp[hz])) (u.extract y.fy.length u.size) (a+y.count) S (by rw[ar _ _ _ (zd _)];omega) e.2 (by omega) (by omega) (by omega) (by omega) e.2;rw[L];dsimp only;rw[zi (by simp),W,aC]
   rw[G xs (fun _ h=>h) _ _ n (by rw[<-aa,n];omega) q R r (by omega) (by omega) q];dsimp only;rw[zi (by simp),zk,It.count];simp
theorem Tl (D M:Int)(x:It)(s:ByteArray)(more:List UInt8)(deep ahead:Nat)(h:s.data.toList=x.fy++more)(j:s.size<18446744073709551616)(b:x.right=true)(c:(deep:Int)+x.deep<=D+1)(d:deep+x.deep<=17)(k:(ahead:Int)+x.count<=M)(i:ahead+x.count<=1024):
 bq D M s deep ahead=⟨x,x.fy.length,x.count,0⟩:=by
 rw[WL D M x s more deep ahead h j b c d k i];cases x with
 |mk t l xs=>
  cases l with
  |false=>rfl
  |true=>
   have e:t.size=0:=by
    simp only[It.right,formed,zy]at b;simpa using b.1
   have:t=ByteArray.empty:=aF (by rw[zo (show t.data.toList.length=0 by rw[aa];exact e)];rfl);subst this;rfl
