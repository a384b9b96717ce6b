/- How large the frame is that bytes tell. -/
import Derived.Test.YtpjgigllldipiaaGreatDoorKA4
import Derived.Test.YtpjgigllldipiaaGreatDoorKA3
set_option linter.all false
namespace Go.Proofs.YtpjgigllldipiaaGreatDoor
def zr:=@beq_eq_false_iff_ne
def zH:=@decide_eq_true
def yn:=@of_decide_eq_true
def yZ:=@List.getElem_cons_zero
def xp:=@Nat.add_zero
def Zt:=@Bool.and_true
def ZQ:=@List.take_left'
def ZS:=@List.drop_left'
def ZV:=@List.getD_cons_zero
def Yu:=@List.length_eq_one_iff
theorem OS (s:ByteArray)(size k b:Nat)(out:List UInt8)(h:out.length<=size)(c:(bT s size k b out).1=0):(bT s size k b out).2.2.length<=size:=by
 unfold bT at c⊢;by_cases i:s.size<k+bg b
 ·rw[zl i];exact h
 rw[zj i]at c⊢;by_cases e:(b%4≠0/\(jU b (im s k b)=0\/out.length<jU b (im s k b)))\/size-out.length<cH b (im s k b)
 ·rw[zl e];exact h
 rw[zj e]at c⊢;by_cases d:b%4=0
 ·rw[zl d]at c⊢;by_cases j:s.size<k+bg b+cH b (im s k b)
  ·rw[zl j];exact h
  rw[zj j];simp only[zo,aa];rw[an _ _ _ (by omega)];omega
 rw[zj d];simp only[ug];omega
theorem J3 (s:ByteArray)(size:Nat):∀(f k:Nat) (out:List UInt8),out.length<=size->(gN s size f k out).2.length<=size
 |0,k,out,_=>by simp[gN]
 |f+1,k,out,h=>by
  unfold gN;by_cases c:k<s.size
  ·rw[Yn c];by_cases b:(bT s size k s[k].toNat out).1=0
   ·rw[zl b];exact J3 s size f _ _ (OS s size k _ out h b)
   rw[zj b];simp
  rw[dif_neg c];split
  ·simp
  exact h
theorem ED (b c:Int)(s:ByteArray):(((aT b c s).2.2.1.size:Nat):Int)<=max c 0:=by
 rw[bI];split
 ·show((0:Nat):Int)<=_;omega
 split
 ·show((0:Nat):Int)<=_;omega
 split
 ·show((0:Nat):Int)<=_;omega
 split
 ·show((0:Nat):Int)<=_;omega
 rename_i i d e h
 show(((bc (ai b s).2.2.1 c).2.length:Nat):Int)<=_
 unfold bc iJ;rw[zj d,zj e];have:=J3 ((ai b s).2.2.1.extract (aC (ai b s).2.2.1).2.1 (ai b s).2.2.1.size) (aC (ai b s).2.2.1).1 (((ai b s).2.2.1.extract (aC (ai b s).2.2.1).2.1 (ai b s).2.2.1.size).size+1) 0 [] (by simp);omega
theorem Hu (s:ByteArray)(a b:Nat):(s.extract a b).size<=s.size:=by simp;omega
theorem Hv (s:ByteArray):(cW s).2.size<=12:=by
 unfold cW;split
 ·rename_i h;exact(dy h.2).2
 exact yo _
theorem EF (m:Nat)(most:Int)(s:ByteArray):(aX m most s).2.1.size<=12/\(aX m most s).2.2.1.size<=s.size:=by
 unfold aX;repeat' split
 all_goals dsimp only
 all_goals first|with_reducible exact⟨Hv _,Hu _ _ _⟩|exact⟨by simp,by simp⟩
theorem EG (most:Int)(s:ByteArray):(ai most s).2.2.1.size<=s.size:=by
 by_cases h:(ai most s).1=0
 ·rw[eD]at h⊢;generalize au most s=p at*;generalize ay (s.extract p.2.1 (p.2.1+p.1))=q at*;by_cases d:p.2.2≠0
  ·rw[zl d];exact yo _
  rw[zj d]at h⊢;by_cases c:s.size<p.2.1+p.1
  ·rw[zl c];exact yo _
  rw[zj c]at h⊢;by_cases b:q.2.2≠0
  ·rw[zl b];exact yo _
  rw[zj b];exact zP (Hu _ _ _) (Hu _ _ _)
 rw[OK most s h];exact yo _
theorem Bz (c:aS)(s:ByteArray):(bo c s).2.1.nm.size<=12/\(((bo c s).2.1.body.size:Nat):Int)<=max (s.size:Int) (max c.un 0):=by
 unfold bo;split
 ·have:=EF c.mg c.fr s;exact⟨this.1,by have:=this.2;show(((aX c.mg c.fr s).2.2.1.size:Nat):Int)<=_;omega⟩
 split
 ·have:=EG c.fr s;exact⟨yo _,by show(((ai c.fr s).2.2.1.size:Nat):Int)<=_;omega⟩
 have:=ED c.fr c.un s;exact⟨yo _,by show(((aT c.fr c.un s).2.2.1.size:Nat):Int)<=_;omega⟩
open Go.RowKit
def iw (c:aS)(b:ByteArray)(nd:Nat):Prop:=∀T:ByteArray,(b++T).size<nd->(aW c (b++T)).1=2
theorem iw.zero (c:aS)(b:ByteArray):iw c b 0:=fun T h=>absurd h (by omega)
theorem iw.here {c:aS}{b:ByteArray}{d:Nat}(h:iw c b d)(e:b.size<d):(aW c b).1=2:=by
 have:=h ByteArray.empty (by rw[kN];exact e);rwa [kN]at this
theorem iw.more {c:aS}{b:ByteArray}{i:Nat}(h:iw c b i)(s:ByteArray):iw c (b++s) i:=fun T d=>by
 have e:b++s++T=b++(s++T):=aG (by simp only[ba,zI]);rw[e]at d⊢;exact h _ d
theorem iw.of {c:aS}(d:c.right=true){b:ByteArray}(h:(aW c b).1=2):iw c b (gF c b):=fun T e=>by
 rw[bN d]at h⊢;exact Ew c b T h e
theorem cJ {v:Value}{k:Nat}:k∈v.ownBlock.toList↔v.ownBlock=some k:=by simp
theorem l8.only {a b:World}{v c:Value}(h:l8 a b v c):ae v.ownBlock.toList a b:=ae.cX h.grown
theorem bJ.pM {w w':World}{base:Nat}{E:TypeId}{v:Value}{l:List UInt8}{L:List Nat}(h:bJ w base E v l)(d:ae L w w')(c:∀k,v.ownBlock=some k->k∉L):bJ w' base E v l:=h.ag fun k b e=>d.block k b (c k e)
def oG (g:Nat)(bv:Value):List Nat:=g::bv.ownBlock.toList
theorem iy {g:Nat}{b:Value}{k:Nat}:k∈oG g b↔k=g\/b.ownBlock=some k:=by simp[oG]
def bu (n:Nat):Nat:=if n<253 then n else if n<65536 then 253 else if n<4294967296 then 254 else 255
def bj (b:Nat):Nat:=if b=253 then 2 else if b=254 then 4 else 8
def dv (n:Nat):List UInt8:=if n<253 then [ub n]else ub (bu n)::jk n (bj (bu n))
def aw :List UInt8->Nat×Nat×Int
 | []=>(0,0,2)
 |b::t=>if b.toNat<253 then(b.toNat,1,0)else if t.length<bj b.toNat then(0,0,2)
  else if bu (cZ (t.take (bj b.toNat)))=b.toNat then(cZ (t.take (bj b.toNat)),1+bj b.toNat,0)else(0,0,3)
theorem mG (b:Nat):2<=bj b/\bj b<=8:=by unfold bj;split<;>(try split)<;>omega
theorem Hw (n:Nat):bu n<256:=by unfold bu;split<;>(try split)<;>(try split)<;>omega
theorem Hx {n:Nat}(h:¬n<253):253<=bu n:=by unfold bu;rw[zj h];split<;>(try split)<;>omega
theorem tH {n:Nat}(h:¬n<253)(d:n<18446744073709551616):n<2^(8*bj (bu n)):=by
 unfold bu;rw[zj h];by_cases c:n<65536
 ·rw[zl c];show n<2^16;omega
 rw[zj c];by_cases b:n<4294967296
 ·rw[zl b];show n<2^32;omega
 rw[zj b];show n<2^64;omega
theorem iZ (n:Nat):1<=(dv n).length/\(dv n).length<=9:=by
 unfold dv;split
 ·simp
 have:=mG (bu n);simp[bd];omega
theorem uR (n:Nat)(q:List UInt8)(b:n<18446744073709551616):aw (dv n++q)=(n,(dv n).length,0):=by
 unfold dv;by_cases h:n<253
 ·rw[zl h];simp only[ya,yD,aw,bh n (by omega),zl h,yF]
 rw[zj h];have d:=Hx h;have c:=Hw n;simp only[ya,aw,bh _ c,zj (show¬bu n<253 by omega)];rw[zj (by rw[zo,bd];omega),ZQ (bd _ _),OE _ _ (tH h b),zl rfl];simp[bd,ZB]
theorem iz (r:List UInt8)(n z:Nat)(h:aw r=(n,z,0)):n<18446744073709551616/\z<=r.length/\r.take z=dv n/\(dv n).length=z:=by
 cases r with
 |nil=>cases h
 |cons b t=>
  have l:=b.toNat_lt;have k:ub (b.toNat:Nat)=b:=by apply zW.1;rw[bh _ l]
  simp only[aw]at h;by_cases c:b.toNat<253
  ·rw[zl c]at h;injection h with e1 e2;injection e2 with e2 _;subst e1 e2;refine⟨by omega,by simp, ?_, ?_⟩
   ·unfold dv;rw[zl c,k];rfl
   unfold dv;rw[zl c];rfl
  rw[zj c]at h;by_cases i:t.length<bj b.toNat
  ·rw[zl i]at h;injection h with _ h;injection h with _ h;cases h
  rw[zj i]at h;by_cases e:bu (cZ (t.take (bj b.toNat)))=b.toNat
  ·rw[zl e]at h;injection h with e1 e2;injection e2 with e2 _;have q:=jq (t.take (bj b.toNat));have d:(t.take (bj b.toNat)).length=bj b.toNat:=by rw[yc];omega
   have o:=mG b.toNat;rw[d]at q;have s:2^(8*bj b.toNat)<=18446744073709551616:=le_pow _ o.2;have j:dv n=b::t.take (bj b.toNat):=by
    subst e1;have m:¬cZ (t.take (bj b.toNat))<253:=by
     intro p;have:bu (cZ (t.take (bj b.toNat)))=cZ (t.take (bj b.toNat)):=by unfold bu;rw[zl p]
     omega
    unfold dv;rw[zj m,e,k];congr 1
    have:=OF (t.take (bj b.toNat));rwa [d]at this
   refine⟨by omega,by simp only[zB];omega, ?_, ?_⟩
   ·rw[j,<-e2,ZB,zV]
   rw[j,zB,d];omega
  rw[zj e]at h;injection h with _ h;injection h with _ h;cases h
theorem EH (r:List UInt8):aw (r.take 9)=aw r:=by
 cases r with
 |nil=>rfl
 |cons b t=>
  have c:=mG b.toNat;simp only[zV,aw];rw[xF,show min (bj b.toNat) 8=bj b.toNat from by omega,yc];by_cases h:t.length<bj b.toNat
  ·rw[zl (show min 8 t.length<bj b.toNat by omega),zl h]
  rw[zj (show¬min 8 t.length<bj b.toNat by omega),zj h]
theorem J4 (n:Nat):lk (cB n)=n:=by
 induction n using Nat.strongRecOn with
 |ind n ih=>
  by_cases h:n=0
  ·subst h;rw[dm];rfl
  rw[gE h,ud,ih (n/256) (by omega),bh _ (by omega)];omega
theorem J5 (n:Nat)(h:n≠0):cB n≠ []:=by rw[gE h];simp
theorem BA (n:Nat)(h:n≠0):(cB n).getD 0 0≠0:=by
 induction n using Nat.strongRecOn with
 |ind n ih=>
  rw[gE h];by_cases c:n/256=0
  ·rw[c,dm,yD];intro e;have d:=bh (n%256) (by omega);simp only[ZV]at e;rw[e]at d;simp at d;omega
  have:=ih (n/256) (by omega) c;cases hl:cB (n/256)with
  |nil=>exact absurd hl (J5 _ c)
  |cons a b=>rw[hl]at this;simpa using this
theorem EI (l:List UInt8)(h:l.getD 0 0≠0):cB (lk l)=l:=by
 obtain⟨k,i⟩:∃k,l.length=k:=⟨_,rfl⟩
 induction k generalizing l with
 |zero=>obtain rfl:=zt i;simp at h
 |succ k ih=>
  have d:l≠ []:=by intro e;subst e;simp at i
  have e:=List.dropLast_concat_getLast d;have q:=(l.getLast d).toNat_lt;by_cases n:k=0
  ·subst n;match l,i with
   | [b],_=>
    have o:b.toNat≠0:=fun e=>h (by simp;exact zW.1 e)
    have r:=b.toNat_lt;have m:lk [b]=b.toNat:=by simp[lk,cZ]
    rw[m,gE o,show b.toNat/256=0 from by omega,dm,yD];congr 1
    apply zW.1;rw[bh _ (by omega)];omega
  have c:l.dropLast.getD 0 0≠0:=by
   have:l.dropLast.getD 0 0=l.getD 0 0:=by
    rw[zA,zA,List.getElem?_dropLast,zl (by omega)]
   rw[this];exact h
  have j:=ih l.dropLast c (by rw[List.length_dropLast];omega);rw[<-e,ud,gE,show(256*lk l.dropLast+(l.getLast d).toNat)/256=lk l.dropLast from by omega,j]
  ·congr 2
   apply zW.1;rw[bh _ (by omega)];omega
  intro p;have:lk l.dropLast=0:=by omega
  rw[this,dm]at j;rw[<-j]at c;simp at c
def cr (b n:Nat):List UInt8:=if n<=55 then [ub ((b+n:Nat):Int)]else ub ((b+55+(cB n).length:Nat):Int)::cB n
mutual
def It.fJ :It->List UInt8
 | .mk t l s=>if l=true then cr 192 (fp s).length++fp s else if t.size=1/\(t.data.toList.getD 0 0).toNat<128 then t.data.toList else cr 128 t.size++t.data.toList
def fp :List It->List UInt8
 | []=> []
 |x::xs=>x.fJ++fp xs
end
def kQ (b:List UInt8):List UInt8:=cr 192 b.length++b
def ec (xs:List It)(b:List UInt8)(rest:List (List It×List UInt8)):List UInt8:=rest.foldl (fun inner f=>f.2++(kQ inner++fp f.1)) (b++fp xs)
theorem oH (b c:List UInt8)(d:List It)(rest:List (List It×List UInt8)):ec [] b ((d,c)::rest)=ec d (c++kQ b) rest:=by simp[ec,fp]
theorem mH (x:It)(xs:List It)(b:List UInt8)(rest:List (List It×List UInt8)):ec (x::xs) b rest=ec xs (b++x.fJ) rest:=by simp[ec,fp]
theorem EJ (t:ByteArray)(s:List It)(xs:List It)(b:List UInt8)(rest:List (List It×List UInt8)):ec (.mk t true s::xs) b rest=ec s [] ((xs,b)::rest):=by simp[ec,fp,It.fJ,kQ]
def Af (s:ByteArray):Bool×Nat×Nat×Int:=
 let b:=(s.data.toList.getD 0 0).toNat
 if b<128 then(false,0,1,0)
 else
  let l:=decide (192<=b)
  let told:=if 192<=b then b-192 else b-128
  let size:=if told<=55 then 1 else 1+(told-55)
  let n:=if told<=55 then told else lk (s.extract 1 size).data.toList
  if told<=55 then
   if s.size<size+n then(false,0,0,2)
   else if l=false/\n=1/\(s.data.toList.getD 1 0).toNat<128 then(false,0,0,3)
   else(l,1,told,0)
  else
   if s.size<size then(false,0,0,2)
   else if(s.data.toList.getD 1 0).toNat=0\/n<=55 then(false,0,0,3)
   else if s.size<size+n then(false,0,0,2)
   else(l,size,n,0)
def hd (s:ByteArray)(deep many:Bool):Bool×Nat×Nat×Int:=
 if s.size=0 then(false,0,0,2)else if deep=true then(false,0,0,6)else if many=true then(false,0,0,4)else Af s
theorem Wa (s:ByteArray)(k:0<s.size)(h:(Af s).2.2.2=0):(Af s).2.1+(Af s).2.2.1<=s.size/\1<=(Af s).2.1+(Af s).2.2.1/\((Af s).1=true->1<=(Af s).2.1):=by
 unfold Af at h⊢;dsimp only at h⊢;generalize (s.data.toList.getD 0 0).toNat=b at*;by_cases e:b<128
 ·rw[zl e]at h⊢;dsimp only;refine⟨by omega,by omega,by simp⟩
 rw[zj e]at h⊢;generalize (if 192<=b then b-192 else b-128)=told at*;by_cases i:told<=55
 ·simp only[zl i]at h⊢;by_cases c:s.size<1+told
  ·rw[zl c]at h;simp at h
  rw[zj c]at h⊢;split at h
  ·simp at h
  rename_i d;rw[zj d];dsimp only;refine⟨by omega,by omega,fun _=>by omega⟩
 simp only[zj i]at h⊢;generalize lk (s.extract 1 (1+(told-55))).data.toList=n at*;by_cases c:s.size<1+(told-55)
 ·rw[zl c]at h;simp at h
 rw[zj c]at h⊢;split at h
 ·simp at h
 rename_i d
 rw[zj d];split at h
 ·simp at h
 rename_i j
 rw[zj j];dsimp only;refine⟨by omega,by omega,fun _=>by omega⟩
theorem sw (s:ByteArray)(d m:Bool)(h:(hd s d m).2.2.2=0):0<s.size/\(hd s d m).2.1+(hd s d m).2.2.1<=s.size/\1<=(hd s d m).2.1+(hd s d m).2.2.1/\((hd s d m).1=true->1<=(hd s d m).2.1):=by
 unfold hd at h⊢;by_cases e:s.size=0
 ·rw[zl e]at h;simp at h
 rw[zj e]at h⊢;by_cases c:d=true
 ·rw[zl c]at h;simp at h
 rw[zj c]at h⊢;by_cases b:m=true
 ·rw[zl b]at h;simp at h
 rw[zj b]at h⊢;exact⟨by omega,Wa s (by omega) h⟩
structure Rd where
 x:It
 size:Nat
 items:Nat
 e:Int
structure J6 where
 xs:List It
 items:Nat
 e:Int
def i' :It:= .mk ByteArray.empty false []
def Rd.bad (e:Int):Rd:=⟨i',0,0,e⟩
def J6.bad (e:Int):J6:=⟨[],0,e⟩
def aE (D:Int)(deep:Nat):Bool:=decide (D<deep)||decide (16<deep)
def aF (M:Int)(ahead:Nat):Bool:=decide (M<ahead+1)||decide (1024<ahead+1)
def within (e:Int):Int:=if e=2 then 3 else e
mutual
def pN (D M:Int):Nat->ByteArray->Nat->Nat->Rd
 |0,_,_,_=>Rd.bad 2
 |f+1,s,deep,ahead=>
  if(hd s (aE D deep) (aF M ahead)).2.2.2≠0 then Rd.bad (hd s (aE D deep) (aF M ahead)).2.2.2
  else if(hd s (aE D deep) (aF M ahead)).1=false then
   ⟨.mk (s.extract (hd s (aE D deep) (aF M ahead)).2.1 ((hd s (aE D deep) (aF M ahead)).2.1+(hd s (aE D deep) (aF M ahead)).2.2.1)) false [],
    (hd s (aE D deep) (aF M ahead)).2.1+(hd s (aE D deep) (aF M ahead)).2.2.1,1,0⟩
  else
   if(EK D M f (s.extract (hd s (aE D deep) (aF M ahead)).2.1 ((hd s (aE D deep) (aF M ahead)).2.1+(hd s (aE D deep) (aF M ahead)).2.2.1)) (deep+1) (ahead+1)).e≠0
   then Rd.bad (EK D M f (s.extract (hd s (aE D deep) (aF M ahead)).2.1 ((hd s (aE D deep) (aF M ahead)).2.1+(hd s (aE D deep) (aF M ahead)).2.2.1)) (deep+1) (ahead+1)).e
   else⟨.mk ByteArray.empty true (EK D M f (s.extract (hd s (aE D deep) (aF M ahead)).2.1 ((hd s (aE D deep) (aF M ahead)).2.1+(hd s (aE D deep) (aF M ahead)).2.2.1)) (deep+1) (ahead+1)).xs,
    (hd s (aE D deep) (aF M ahead)).2.1+(hd s (aE D deep) (aF M ahead)).2.2.1,
    1+(EK D M f (s.extract (hd s (aE D deep) (aF M ahead)).2.1 ((hd s (aE D deep) (aF M ahead)).2.1+(hd s (aE D deep) (aF M ahead)).2.2.1)) (deep+1) (ahead+1)).items,0⟩
def EK (D M:Int):Nat->ByteArray->Nat->Nat->J6
 |0,_,_,_=>J6.bad 2
 |f+1,s,deep,ahead=>
  if s.size=0 then⟨[],0,0⟩
  else if(pN D M f s deep ahead).e≠0 then J6.bad (within (pN D M f s deep ahead).e)
  else if(EK D M f (s.extract (pN D M f s deep ahead).size s.size) deep (ahead+(pN D M f s deep ahead).items)).e≠0
   then J6.bad (EK D M f (s.extract (pN D M f s deep ahead).size s.size) deep (ahead+(pN D M f s deep ahead).items)).e
  else⟨(pN D M f s deep ahead).x::(EK D M f (s.extract (pN D M f s deep ahead).size s.size) deep (ahead+(pN D M f s deep ahead).items)).xs,
   (pN D M f s deep ahead).items+(EK D M f (s.extract (pN D M f s deep ahead).size s.size) deep (ahead+(pN D M f s deep ahead).items)).items,0⟩
end
theorem mI (D M:Int)(f:Nat)(s:ByteArray)(deep ahead:Nat)(h:(pN D M f s deep ahead).e=0):1<=(pN D M f s deep ahead).size/\(pN D M f s deep ahead).size<=s.size:=by
 cases f with
 |zero=>simp[pN,Rd.bad]at h
 |succ f=>
  rw[pN]at h⊢;have e:=sw s (aE D deep) (aF M ahead);generalize hd s (aE D deep) (aF M ahead)=H at*;by_cases b:H.2.2.2≠0
  ·rw[zl b]at h;exact absurd h b
  rw[zj b]at h⊢;have e:=e (zJ.1 b);by_cases d:H.1=false
  ·rw[zl d];dsimp only;omega
  rw[zj d]at h⊢;split at h
  ·rename_i c;exact absurd h c
  rename_i c;rw[zj c];dsimp only;omega
theorem CB (D M:Int):∀(z:Nat),(∀(s:ByteArray) (deep ahead f g:Nat),s.size<=z->2*s.size<=f->2*s.size<=g->pN D M f s deep ahead=pN D M g s deep ahead)/\
 (∀(s:ByteArray) (deep ahead f g:Nat),s.size<=z->2*s.size+1<=f->2*s.size+1<=g->EK D M f s deep ahead=EK D M g s deep ahead):=by
 intro z;induction z with
 |zero=>
  refine⟨fun s deep ahead f g hz _ _=> ?_,fun s deep ahead f g hz h i=> ?_⟩
  ·have e:s.size=0:=by omega
   have p:∀d m,hd s d m=(false,0,0,2):=fun d m=>by simp[hd,e]
   have:∀f,pN D M f s deep ahead=Rd.bad 2:=by
    intro f;cases f with
    |zero=>rfl
    |succ f=>rw[pN];simp[p]
   rw[this f,this g]
  obtain⟨f,rfl⟩:∃k,f=k+1:=⟨f-1,by omega⟩
  obtain⟨g,rfl⟩:∃k,g=k+1:=⟨g-1,by omega⟩
  rw[EK,EK,zl (by omega),zl (by omega)]
 |succ z ih=>
  obtain⟨o,l⟩:=ih;have n:∀(s:ByteArray) (deep ahead f g:Nat),s.size<=z+1->2*s.size<=f->2*s.size<=g->pN D M f s deep ahead=pN D M g s deep ahead:=by
   intro s deep ahead f g hz h i;by_cases e:s.size=0
   ·exact o s deep ahead f g (by omega) h i
   obtain⟨f,rfl⟩:∃k,f=k+1:=⟨f-1,by omega⟩
   obtain⟨g,rfl⟩:∃k,g=k+1:=⟨g-1,by omega⟩
   rw[pN,pN];have c:=sw s (aE D deep) (aF M ahead);generalize hd s (aE D deep) (aF M ahead)=H at*;by_cases b:H.2.2.2≠0
   ·rw[zl b,zl b]
   have c:=c (zJ.1 b);by_cases j:H.1=false
   ·rw[zj b,zj b,zl j,zl j]
   have r:=c.2.2.2 (by simpa using j);have q:(s.extract H.2.1 (H.2.1+H.2.2.1)).size=H.2.2.1:=by rw[an _ _ _ c.2.1];omega
   rw[l (s.extract H.2.1 (H.2.1+H.2.2.1)) (deep+1) (ahead+1) f g (by omega) (by omega) (by omega)]
  refine⟨n,fun s deep ahead f g hz h i=> ?_⟩;by_cases e:s.size=0
  ·exact l s deep ahead f g (by omega) h i
  obtain⟨f,rfl⟩:∃k,f=k+1:=⟨f-1,by omega⟩
  obtain⟨g,rfl⟩:∃k,g=k+1:=⟨g-1,by omega⟩
  rw[EK,EK,zj e,zj e,n s deep ahead f g hz (by omega) (by omega)];have c:=mI D M g s deep ahead;generalize pN D M g s deep ahead=R at*;by_cases b:R.e≠0
  ·rw[zl b,zl b]
  have c:=c (zJ.1 b);have q:(s.extract R.size s.size).size=s.size-R.size:=an _ _ _ (zi _);rw[l (s.extract R.size s.size) deep (ahead+R.items) f g (by omega) (by omega) (by omega)]
def bp (D M:Int)(s:ByteArray)(deep ahead:Nat):Rd:=pN D M (2*s.size+2) s deep ahead
def cN (D M:Int)(s:ByteArray)(deep ahead:Nat):J6:=EK D M (2*s.size+1) s deep ahead
theorem dR (D M:Int)(s:ByteArray)(deep ahead:Nat)(H:Bool×Nat×Nat×Int)(e:hd s (aE D deep) (aF M ahead)=H):bp D M s deep ahead=
 if H.2.2.2≠0 then Rd.bad H.2.2.2
 else if H.1=false then⟨.mk (s.extract H.2.1 (H.2.1+H.2.2.1)) false [],H.2.1+H.2.2.1,1,0⟩
 else if(cN D M (s.extract H.2.1 (H.2.1+H.2.2.1)) (deep+1) (ahead+1)).e≠0 then Rd.bad (cN D M (s.extract H.2.1 (H.2.1+H.2.2.1)) (deep+1) (ahead+1)).e
 else⟨.mk ByteArray.empty true (cN D M (s.extract H.2.1 (H.2.1+H.2.2.1)) (deep+1) (ahead+1)).xs,H.2.1+H.2.2.1,1+(cN D M (s.extract H.2.1 (H.2.1+H.2.2.1)) (deep+1) (ahead+1)).items,0⟩:=by
 subst e;rw[bp,pN];have c:=sw s (aE D deep) (aF M ahead);generalize hd s (aE D deep) (aF M ahead)=H at*;by_cases b:H.2.2.2≠0
 ·rw[zl b,zl b]
 have c:=c (zJ.1 b);by_cases d:H.1=false
 ·rw[zj b,zj b,zl d,zl d]
 have h:(s.extract H.2.1 (H.2.1+H.2.2.1)).size=H.2.2.1:=by rw[an _ _ _ c.2.1];omega
 rw[cN,(CB D M s.size).2 (s.extract H.2.1 (H.2.1+H.2.2.1)) (deep+1) (ahead+1) (2*s.size+1) (2*(s.extract H.2.1 (H.2.1+H.2.2.1)).size+1) (by omega) (by omega) (by omega)]
theorem jl (D M:Int)(s:ByteArray)(deep ahead:Nat)(h:s.size=0):cN D M s deep ahead=⟨[],0,0⟩:=by rw[cN,EK,zl h]
theorem gZ (D M:Int)(s:ByteArray)(deep ahead:Nat)(h:s.size≠0)(R:Rd)(d:bp D M s deep ahead=R):cN D M s deep ahead=
 if R.e≠0 then J6.bad (within R.e)
 else if(cN D M (s.extract R.size s.size) deep (ahead+R.items)).e≠0 then J6.bad (cN D M (s.extract R.size s.size) deep (ahead+R.items)).e
 else⟨R.x::(cN D M (s.extract R.size s.size) deep (ahead+R.items)).xs,R.items+(cN D M (s.extract R.size s.size) deep (ahead+R.items)).items,0⟩:=by
 subst d;rw[cN,EK,zj h,bp,(CB D M s.size).1 s deep ahead (2*s.size) (2*s.size+2) (by omega) (by omega) (by omega)];have c:=mI D M (2*s.size+2) s deep ahead;generalize pN D M (2*s.size+2) s deep ahead=R at*;by_cases b:R.e≠0
 ·rw[zl b,zl b]
 have c:=c (zJ.1 b);have e:(s.extract R.size s.size).size=s.size-R.size:=an _ _ _ (zi _);rw[cN,(CB D M s.size).2 (s.extract R.size s.size) deep (ahead+R.items) (2*s.size) (2*(s.extract R.size s.size).size+1) (by omega) (by omega) (by omega)]
mutual
def It.lay :It->Ty->List UInt8
 | .mk tx _ s,t=>if t.kind=1 then jk (lk tx.data.toList) t.size.toNat else if t.kind=2 then tx.data.toList else if t.kind=3 then dv tx.size++tx.data.toList
  else if t.kind=4 then dv s.length++cn s t 0 else cn s t 0
def cn :List It->Ty->Nat->List UInt8
 | [],_,_=> []
 |x::xs,t,i=>x.lay (t.at i)++cn xs t (i+1)
end
theorem sx (a b:List It)(t:Ty)(i:Nat):cn (a++b) t i=cn a t i++cn b t (i+a.length):=by
 induction a generalizing i with
 |nil=>simp[cn]
 |cons x xs ih=>simp only[ya,cn,ih,zB,zI];rw[show i+1+xs.length=i+(xs.length+1)from by omega]
theorem BB {s:List It}{k:Nat}{t:Ty}(h:k<s.length):cn (s.take (k+1)) t 0=cn (s.take k) t 0++s[k].lay (t.at k):=by
 rw[gB s k h,sx];simp[cn,yK (Yt h)]
mutual
def Ty.full :Ty->Bool
 | .mk _ _ l t=>decide (t=0)&&bZ l
def bZ :List Ty->Bool
 | []=>true
 |x::xs=>x.full&&bZ xs
end
def Ty.flat (t:Ty):Bool:=t.may&&bZ t.sub
structure Sa where
 e:Int
 x:It
 n:Nat
 q:List UInt8
structure kR where
 e:Int
 xs:List It
 n:Nat
 q:List UInt8
def Sa.bad (e:Int)(n:Nat)(q:List UInt8):Sa:=⟨e,i',n,q⟩
def kR.cons (x:It)(r:kR):kR:=⟨r.e,x::r.xs,r.n,r.q⟩
def kR.list (r:kR):Sa:=⟨r.e,.mk ⟨#[]⟩ true r.xs,r.n,r.q⟩
def s9 (f:Nat->List UInt8->Sa):Nat->Nat->List UInt8->kR
 |0,n,r=>⟨0,[],n,r⟩
 |c+1,n,r=>if(f n r).e≠0 then⟨(f n r).e,[(f n r).x],(f n r).n,(f n r).q⟩else(s9 f c (f n r).n (f n r).q).cons (f n r).x
mutual
def Ty.rd (M:Int):Ty->Nat->List UInt8->Sa
 | .mk k z l ta,n,r=>
  if M<=n then .bad 4 n r
  else if k=1 then(if r.length<z.toNat then .bad 2 (n+1) r else⟨0,.mk ⟨(cB (cZ (r.take z.toNat))).toArray⟩ false [],n+1,r.drop z.toNat⟩)
  else if k=2 then(if r.length<z.toNat then .bad 2 (n+1) r else⟨0,.mk ⟨(r.take z.toNat).toArray⟩ false [],n+1,r.drop z.toNat⟩)
  else if k=3 then
   (if(aw r).2.2≠0 then .bad (aw r).2.2 (n+1) r else if z<(aw r).1 then .bad 5 (n+1) r
   else if(r.drop (aw r).2.1).length<(aw r).1 then .bad 2 (n+1) (r.drop (aw r).2.1)
   else⟨0,.mk ⟨((r.drop (aw r).2.1).take (aw r).1).toArray⟩ false [],n+1,(r.drop (aw r).2.1).drop (aw r).1⟩)
  else if k=4 then
   (if(aw r).2.2≠0 then .bad (aw r).2.2 (n+1) r else if z<(aw r).1 then .bad 5 (n+1) r
   else(rdF M l (aw r).1 (n+1) (r.drop (aw r).2.1)).list)
  else(nF M l ((l.length:Int)-ta).toNat (n+1) r).list
def rdF (M:Int):List Ty->Nat->Nat->List UInt8->kR
 | [],_,n,r=>⟨0,[],n,r⟩
 |x::_,c,n,r=>s9 (fun n r=>x.rd M n r) c n r
def nF (M:Int):List Ty->Nat->Nat->List UInt8->kR
 | [],_,n,r=>⟨0,[],n,r⟩
 |x::xs,m,n,r=>if m=0/\r= []then⟨0,[],n,r⟩
  else if(x.rd M n r).e≠0 then⟨(x.rd M n r).e,[(x.rd M n r).x],(x.rd M n r).n,(x.rd M n r).q⟩
  else(nF M xs (m-1) (x.rd M n r).n (x.rd M n r).q).cons (x.rd M n r).x
end
theorem Wb (l:List UInt8)(h:gj l=false):cB (lk l)=l:=by
 cases l with
 |nil=>simp[lk,cZ,dm]
 |cons b t=>
  apply EI;have:(b==0)=false:=h;intro e;have c:b=0:=by simpa using e
  rw[c]at this;simp at this
theorem uS {s:List It}(h:dg s=true):∀x∈s,x.right=true:=by
 induction s with
 |nil=>simp
 |cons y ys ih=>
  simp only[dg,zF]at h;intro x hx;rcases xq.1 hx with rfl|hx
  ·exact h.1
  exact ih h.2 x hx
theorem lz {k z:Int}{l:List Ty}{b:Int}(h:(Ty.mk k z l b).full=true):b=0/\bZ l=true:=by
 simpa only[Ty.full,zF,yk]using h
def OT (t:Ty)(x:It)(q:List UInt8):Prop:=t.kind=5->(x.sub.length<t.sub.length->q= [])/\∀j (hj:j<x.sub.length) (ma:j<t.sub.length),((t.sub.length:Int)-t.tail).toNat<=j->(x.sub[j]).lay (t.sub[j])≠ []
theorem mJ {t:Ty}{x:It}(h:t.full=true)(hi:x.dj t=true)(q:List UInt8):OT t x q:=by
 intro d;obtain⟨k,z,l,p⟩:=t;obtain⟨n,b,s⟩:=x;obtain⟨rfl,_⟩:=lz h;simp only[Ty.JT]at d;subst d;simp[It.dj,nR]at hi;obtain⟨⟨⟨_,o⟩,m⟩,_⟩:=hi;refine⟨fun c=> ?_,fun j i e c=> ?_⟩
 ·simp only[It.gA,Ty.gA]at c;omega
 simp only[It.gA,Ty.gA,Ty.Ct]at i e c;omega
theorem J7 {M:Int}{a t:Ty}{f:Nat->List UInt8->Sa}:∀(s:List It) (i n:Nat) (q:List UInt8),(∀j,t.at (i+j)=a)->(∀x∈s,∀(n:Nat) (q:List UInt8),(n:Int)+x.count<=M->f n (x.lay a++q)=⟨0,x,n+x.count,q⟩)->(n:Int)+aH s<=M->
 s9 f s.length n (cn s t i++q)=⟨0,s,n+aH s,q⟩
 | [],i,n,q,_,_,_=>by simp[s9,cn,aH]
 |x::xs,i,n,q,ha,hf,hM=>by
  simp only[aH]at hM;have b:=ha 0;rw[xp]at b;have hx:=hf x (by simp) n (cn xs t (i+1)++q) (by omega);rw[zB,cn,b,zI,s9,hx];simp only[ne_eq,xe,Zq];rw[J7 xs (i+1) (n+x.count) q (fun j=>by have:=ha (j+1);rwa [show i+(j+1)=i+1+j from by omega]at this) (fun y c=>hf y (by simp[c])) (by omega)];simp[kR.cons,aH,yv]
theorem J8 {M:Int}{t:Ty}:∀(b:List Ty) (s:List It) (m i n:Nat) (q:List UInt8),(∀j (h:j<b.length),t.at (i+j)=b[j])->m<=s.length->s.length<=b.length->(s.length<b.length->q= [])->
 (∀j (c:j<s.length) (d:j<b.length),m<=j->(s[j]).lay (b[j])≠ [])->
 (∀j (c:j<s.length) (d:j<b.length),∀(n:Nat) (q:List UInt8),(n:Int)+(s[j]).count<=M->(b[j]).rd M n ((s[j]).lay (b[j])++q)=⟨0,s[j],n+(s[j]).count,q⟩)->(n:Int)+aH s<=M->
 nF M b m n (cn s t i++q)=⟨0,s,n+aH s,q⟩
 | [],s,m,i,n,q,_,_,hs,_,_,_,_=>by
  obtain rfl:s= []:=zt (by simpa using hs);simp[nF,cn,aH]
 |a::b,[],m,i,n,q,_,hm,_,hq,_,_,_=>by
  have k:m=0:=by simpa using hm
  have l:=hq (by simp);subst k l;simp[nF,cn,aH]
 |a::b,x::xs,m,i,n,q,ha,hm,hs,hq,ch,hf,hM=>by
  simp only[aH]at hM;have e:=ha 0 (by simp);rw[xp]at e;have hx:=hf 0 (by simp) (by simp) n (cn xs t (i+1)++q) (by simp only[yZ];omega);simp only[yZ]at hx e;rw[cn,e,zI,nF,hx];rw[zj (by
   rintro⟨k,o⟩;have:=ch 0 (by simp) (by simp) (by omega);simp only[yZ]at this;exact this (List.append_eq_nil_iff.1 o).1)]
  simp only[ne_eq,xe,Zq];rw[J8 b xs (m-1) (i+1) (n+x.count) q (fun j c=>by have:=ha (j+1) (by simpa using c);simpa[show i+(j+1)=i+1+j from by omega]using this) (by simp at hm;omega) (by simpa using hs) (fun h=>hq (by simpa using h))
   (fun j c d h=>by have:=ch (j+1) (by simpa using c) (by simpa using d) (by omega);simpa using this) (fun j c d=>by have:=hf (j+1) (by simpa using c) (by simpa using d);simpa using this) (by omega)]
  simp[kR.cons,aH,yv]
theorem J9 {z:Int}{l:List Ty}{d:Int}{c:ByteArray}{b:Bool}{m:Nat}(h:nR (.mk 1 z l d) c b m=true):b=false/\(c.size:Int)<=z/\gj c.data.toList=false:=by
 simp[nR]at h;exact⟨h.1.1,yn h.1.2,h.2⟩
theorem CC {z:Int}{l:List Ty}{d:Int}{c:ByteArray}{b:Bool}{m:Nat}(h:nR (.mk 2 z l d) c b m=true):b=false/\(c.size:Int)=z:=by
 simp[nR]at h;exact⟨h.1,yn h.2⟩
theorem ra {z:Int}{l:List Ty}{d:Int}{c:ByteArray}{b:Bool}{m:Nat}(h:nR (.mk 3 z l d) c b m=true):b=false/\(c.size:Int)<=z:=by
 simp[nR]at h;exact⟨h.1,yn h.2⟩
theorem EL {z:Int}{l:List Ty}{d:Int}{c:ByteArray}{b:Bool}{m:Nat}(h:nR (.mk 4 z l d) c b m=true):b=true/\(m:Int)<=z:=by
 simp[nR]at h;exact⟨h.1,yn h.2⟩
theorem pO {z:Int}{l:List Ty}{c:Int}{d:ByteArray}{b:Bool}{m:Nat}(h:nR (.mk 5 z l c) d b m=true):b=true/\m<=l.length/\(l.length:Int)-c<=m:=by
 simp[nR]at h;exact⟨h.1.1,yn h.1.2,yn h.2⟩
theorem tI (c:ByteArray)(b:Bool)(s:List It)(z:Int)(l:List Ty)(d:Int):(It.mk c b s).lay (.mk 1 z l d)=jk (lk c.data.toList) z.toNat:=rfl
theorem tJ (c:ByteArray)(b:Bool)(s:List It)(z:Int)(l:List Ty)(d:Int):(It.mk c b s).lay (.mk 2 z l d)=c.data.toList:=rfl
theorem nG (c:ByteArray)(b:Bool)(s:List It)(z:Int)(l:List Ty)(d:Int):(It.mk c b s).lay (.mk 3 z l d)=dv c.size++c.data.toList:=rfl
theorem pP (d:ByteArray)(b:Bool)(s:List It)(z:Int)(l:List Ty)(c:Int):(It.mk d b s).lay (.mk 4 z l c)=dv s.length++cn s (.mk 4 z l c) 0:=rfl
theorem mK (d:ByteArray)(b:Bool)(s:List It)(z:Int)(l:List Ty)(c:Int):(It.mk d b s).lay (.mk 5 z l c)=cn s (.mk 5 z l c) 0:=rfl
theorem J' {M:Int}{n:Nat}(h:M<=n)(t:Ty)(r:List UInt8):t.rd M n r= .bad 4 n r:=by obtain⟨k,z,l,b⟩:=t;rw[Ty.rd,zl h]
theorem H6 {M:Int}{n:Nat}(h:¬M<=n)(z:Int)(l:List Ty)(b:Int)(r:List UInt8):(Ty.mk 1 z l b).rd M n r=if r.length<z.toNat then .bad 2 (n+1) r else⟨0,.mk ⟨(cB (cZ (r.take z.toNat))).toArray⟩ false [],n+1,r.drop z.toNat⟩:=by rw[Ty.rd,zj h];rfl
theorem H7 {M:Int}{n:Nat}(h:¬M<=n)(z:Int)(l:List Ty)(b:Int)(r:List UInt8):(Ty.mk 2 z l b).rd M n r=if r.length<z.toNat then .bad 2 (n+1) r else⟨0,.mk ⟨(r.take z.toNat).toArray⟩ false [],n+1,r.drop z.toNat⟩:=by rw[Ty.rd,zj h];rfl
theorem uT {M:Int}{n:Nat}(h:¬M<=n)(z:Int)(l:List Ty)(b:Int)(r:List UInt8):(Ty.mk 3 z l b).rd M n r=if(aw r).2.2≠0 then .bad (aw r).2.2 (n+1) r else if z<(aw r).1 then .bad 5 (n+1) r
 else if(r.drop (aw r).2.1).length<(aw r).1 then .bad 2 (n+1) (r.drop (aw r).2.1)
 else⟨0,.mk ⟨((r.drop (aw r).2.1).take (aw r).1).toArray⟩ false [],n+1,(r.drop (aw r).2.1).drop (aw r).1⟩:=by rw[Ty.rd,zj h];rfl
theorem CD {M:Int}{n:Nat}(h:¬M<=n)(z:Int)(l:List Ty)(b:Int)(r:List UInt8):(Ty.mk 4 z l b).rd M n r=if(aw r).2.2≠0 then .bad (aw r).2.2 (n+1) r else if z<(aw r).1 then .bad 5 (n+1) r
 else(rdF M l (aw r).1 (n+1) (r.drop (aw r).2.1)).list:=by rw[Ty.rd,zj h];rfl
theorem tK {M:Int}{n:Nat}(h:¬M<=n)(z:Int)(l:List Ty)(b:Int)(r:List UInt8):(Ty.mk 5 z l b).rd M n r=(nF M l ((l.length:Int)-b).toNat (n+1) r).list:=by rw[Ty.rd,zj h];rfl
theorem kS :∀(s:List It) (t:Ty) (i:Nat),cR s t i=true->∀j (h:j<s.length),(s[j]).dj (t.at (i+j))=true
 | [],_,_,_,j,h=>by simp at h
 |x::xs,t,i,hi,0,h=>by simp only[cR,zF]at hi;simpa using hi.1
 |x::xs,t,i,hi,j+1,h=>by
  simp only[cR,zF]at hi;have:=kS xs t (i+1) hi.2 j (by simpa using h);rw[show i+(j+1)=i+1+j from by omega];simpa using this
theorem EM {s:List Ty}(h:bZ s=true):∀k (b:k<s.length),(s[k]).full=true:=by
 induction s with
 |nil=>intro k b;simp at b
 |cons x xs ih=>
  simp only[bZ,zF]at h;intro k b;cases k with
  |zero=>exact h.1
  |succ k=>exact ih h.2 k (by simpa using b)
theorem OU (M:Int)(hM:M<=1024)(x:It):∀(t:Ty) (n:Nat) (q:List UInt8),t.right=true->bZ t.sub=true->OT t x q->x.dj t=true->x.right=true->(n:Int)+x.count<=M->
 t.rd M n (x.lay t++q)=⟨0,x,n+x.count,q⟩:=by
 induction x using It.ind with
 |h tx b s ih=>
  intro t n q hr C qJ hi hx R;obtain⟨k,z,l,d⟩:=t;obtain⟨bC,U⟩:=ju hr;obtain⟨w,ab⟩:=mF hx;have S:=uS ab;have m:¬M<=(n:Int):=by simp only[It.count]at R;omega
  simp only[It.dj,zF]at hi;obtain⟨c,da⟩:=hi;have L:=kS s _ 0 da;simp only[zQ]at L;simp only[Ty.gA]at C;rcases lu bC with⟨rfl,hs,y,D⟩|⟨rfl,N,H,y,D⟩|⟨rfl,N,H,y,D⟩|⟨rfl,N,H,y,D⟩|⟨rfl,N,H,h5,h6⟩
  ·replace c:=J9 c;obtain⟨rfl,hz,DO⟩:=c;have u:s= []:=by simpa[formed]using w
   subst u;have Z:=ue tx.data.toList;rw[aa]at Z;have B:tx.size<=z.toNat:=by omega
   have Gc:lk tx.data.toList<2^(8*z.toNat):=yf Z (yy (by omega) (by omega));rw[tI,H6 m];rw[zj (by rw[zo,bd];omega),ZQ (bd _ _),ZS (bd _ _),OE _ _ Gc,Wb _ DO,jo];simp[It.count,aH]
  ·replace c:=CC c;obtain⟨rfl,hz⟩:=c;have u:s= []:=by simpa[formed]using w
   subst u;have B:tx.data.toList.length=z.toNat:=by rw[aa];omega
   rw[tJ,H7 m];rw[zj (by rw[zo];omega),ZQ B,ZS B,jo];simp[It.count,aH]
  ·replace c:=ra c;obtain⟨rfl,hz⟩:=c;have u:s= []:=by simpa[formed]using w
   subst u;have K:=uR tx.size (tx.data.toList++q) (by omega);have G:(dv tx.size++(tx.data.toList++q)).drop (dv tx.size).length=tx.data.toList++q:=ZS rfl;rw[nG,zI,uT m];rw[K];simp only[G];rw[zj (by simp),zj (by omega),zj (by rw[zo,aa];omega),ZQ (aa tx),ZS (aa tx),jo];simp[It.count,aH]
  ·replace c:=EL c;obtain⟨rfl,hz⟩:=c;have I:tx=⟨#[]⟩:=by
    have:tx.size=0:=by simpa[formed]using w
    exact aG (by simp[zt ((aa tx).trans this)])
   subst I;obtain⟨a,rfl⟩:=Yu.1 y;have p:∀j,(Ty.mk 4 z [a] d).at j=a:=fun j=>by unfold Ty.at;simp
   have O:a.right=true:=by simpa[bK]using U
   have o:a.full=true:=by simpa[bZ]using C
   have K:=uR s.length (cn s (.mk 4 z [a] d) 0++q) (by omega);have G:(dv s.length++(cn s (.mk 4 z [a] d) 0++q)).drop (dv s.length).length=cn s (.mk 4 z [a] d) 0++q:=ZS rfl;simp only[It.count]at R;have F:=J7 (M:=M) (a:=a) (t:= .mk 4 z [a] d) (f:=fun n r=>a.rd M n r) s 0 (n+1) q (fun j=>p _) (fun x i n q E=>by
    obtain⟨j,A,rfl⟩:=xg i;have e:=L j A;rw[p]at e;obtain⟨ak,az,al,at_⟩:=a;exact ih _ i _ n q O (lz o).2 (mJ o e q) e (S _ i) E) (by omega)
   rw[pP,zI,CD m];rw[K];simp only[G,rdF];rw[zj (by simp),zj (by omega),F];simp[kR.list,It.count,yv]
  replace c:=pO c;obtain⟨rfl,cc,cA⟩:=c;have I:tx=⟨#[]⟩:=by
   have:tx.size=0:=by simpa[formed]using w
   exact aG (by simp[zt ((aa tx).trans this)])
  subst I;have p:∀j (h:j<l.length),(Ty.mk 5 z l d).at (0+j)=l[j]:=fun j h=>by unfold Ty.at;simp[h]
  obtain⟨X,W⟩:=qJ rfl;simp only[It.gA,Ty.gA,Ty.Ct]at X W;simp only[It.count]at R;have F:=J8 (M:=M) (t:= .mk 5 z l d) l s ((l.length:Int)-d).toNat 0 (n+1) q p (by omega) cc X W (fun j A J n q E=>by
   have i:=zM A;have e:=L j A;have Y:=p j J;rw[zQ]at Y;rw[Y]at e;have o:=EM C j J;have O:=dP U j J;generalize l[j]=a at*;obtain⟨ak,az,al,at_⟩:=a;exact ih _ i _ n q O (lz o).2 (mJ o e q) e (S _ i) E) (by omega)
  rw[mK,tK m];rw[F];simp[kR.list,It.count,yv]
structure SU (M:Int)(t:Ty)(n:Nat)(r:List UInt8)(R:Sa):Prop where
 dj:R.x.dj t=true
 right:R.x.right=true
 num:R.n=n+R.x.count
 many:(R.n:Int)<=M
 lay:r=R.x.lay t++R.q
 deep:R.x.deep<=t.deep
structure UK (M:Int)(t:Ty)(i n:Nat)(r:List UInt8)(R:kR):Prop where
 dj:cR R.xs t i=true
 right:dg R.xs=true
 num:R.n=n+aH R.xs
 many:(R.n:Int)<=M
 lay:r=cn R.xs t i++R.q
theorem EN {M:Int}{a t:Ty}{f:Nat->List UInt8->Sa}(l:∀n r,(f n r).e=0->SU M a n r (f n r)):∀(c i n:Nat) (r:List UInt8),(∀j,t.at (i+j)=a)->(n:Int)<=M->(s9 f c n r).e=0->
 UK M t i n r (s9 f c n r)/\(s9 f c n r).xs.length=c/\cD (s9 f c n r).xs<=a.deep
 |0,i,n,r,_,hM,_=>⟨⟨rfl,rfl,by simp[s9,aH],hM,by simp[s9,cn]⟩,rfl,by simp[s9,cD]⟩
 |c+1,i,n,r,ha,hM,h=>by
  rw[s9]at h⊢;by_cases e:(f n r).e=0
  ·rw[zj (by simp[e])]at h⊢;have b:=l n r e;obtain⟨d,m,o⟩:=EN l c (i+1) (f n r).n (f n r).q (fun j=>by have:=ha (j+1);rwa [show i+(j+1)=i+1+j from by omega]at this) b.many h;have k:=ha 0;rw[xp]at k;refine⟨⟨?_, ?_, ?_,d.many, ?_⟩,by simp[kR.cons,m], ?_⟩
   ·simp only[kR.cons,cR,k,b.dj,d.dj,Bool.and_self]
   ·simp only[kR.cons,dg,b.right,d.right,Bool.and_self]
   ·have p:=d.num;have q:=b.num;simp only[kR.cons,aH];omega
   ·simp only[kR.cons,cn,k,zI];rw[<-d.lay];exact b.lay
   simp only[kR.cons,cD];have:=b.deep;omega
  rw[zl (by simpa using e)]at h;exact absurd h e
theorem EO {M:Int}{t:Ty}:∀(c:List Ty) (m i n:Nat) (r:List UInt8),(∀j (h:j<c.length),t.at (i+j)=c[j])->(∀a∈c,∀n r,(a.rd M n r).e=0->SU M a n r (a.rd M n r))->(n:Int)<=M->m<=c.length->(nF M c m n r).e=0->
 UK M t i n r (nF M c m n r)/\m<=(nF M c m n r).xs.length/\(nF M c m n r).xs.length<=c.length/\cD (nF M c m n r).xs<=dI c
 | [],m,i,n,r,_,_,hM,hm,_=>⟨⟨rfl,rfl,by simp[nF,aH],hM,by simp[nF,cn]⟩,by simpa[nF]using hm,by simp[nF],by simp[nF,cD]⟩
 |a::c,m,i,n,r,ha,hf,hM,hm,h=>by
  rw[nF]at h⊢;by_cases hz:m=0/\r= []
  ·rw[zl hz];obtain⟨rfl,rfl⟩:=hz;exact⟨⟨rfl,rfl,by simp[aH],hM,by simp[cn]⟩,by simp,by simp,by simp[cD]⟩
  rw[zj hz]at h⊢;by_cases k:(a.rd M n r).e=0
  ·rw[zj (by simp[k])]at h⊢;have d:=hf a (by simp) n r k;obtain⟨e,x,q,w⟩:=EO c (m-1) (i+1) (a.rd M n r).n (a.rd M n r).q (fun j p=>by have:=ha (j+1) (by simpa using p);simpa[show i+(j+1)=i+1+j from by omega]using this) (fun b o=>hf b (by simp[o])) d.many (by simp at hm;omega) h;have l:=ha 0 (by simp);simp only[xp,yZ]at l;refine⟨⟨?_, ?_, ?_,e.many, ?_⟩,by simp only[kR.cons,zB];omega,by simp only[kR.cons,zB];omega, ?_⟩
   ·simp only[kR.cons,cR,l,d.dj,e.dj,Bool.and_self]
   ·simp only[kR.cons,dg,d.right,e.right,Bool.and_self]
   ·have s:=e.num;have u:=d.num;simp only[kR.cons,aH];omega
   ·simp only[kR.cons,cn,l,zI];rw[<-e.lay];exact d.lay
   simp only[kR.cons,cD,dI];have:=d.deep;omega
  rw[zl (by simpa using k)]at h;exact absurd h k
theorem SV {z:Int}{l:List Ty}{e:Int}{b:ByteArray}{m:Nat}(d:(b.size:Int)<=z)(c:gj b.data.toList=false):nR (.mk 1 z l e) b false m=true:=by
 show(!false&&decide ((b.size:Int)<=z)&& !gj b.data.toList)=true
 rw[c,zH d];rfl
theorem SW {z:Int}{l:List Ty}{d:Int}{b:ByteArray}{m:Nat}(c:(b.size:Int)=z):nR (.mk 2 z l d) b false m=true:=by
 show(!false&&decide ((b.size:Int)=z))=true
 rw[zH c];rfl
theorem LZ {z:Int}{l:List Ty}{d:Int}{b:ByteArray}{m:Nat}(c:(b.size:Int)<=z):nR (.mk 3 z l d) b false m=true:=by
 show(!false&&decide ((b.size:Int)<=z))=true
 rw[zH c];rfl
theorem OV {z:Int}{l:List Ty}{d:Int}{b:ByteArray}{m:Nat}(c:(m:Int)<=z):nR (.mk 4 z l d) b true m=true:=by
 show(true&&decide ((m:Int)<=z))=true
 rw[zH c];rfl
theorem OW {z:Int}{l:List Ty}{b:Int}{d:ByteArray}{m:Nat}(e:m<=l.length)(c:(l.length:Int)-b<=m):nR (.mk 5 z l b) d true m=true:=by
 show(true&&decide (m<=l.length)&&decide ((l.length:Int)-b<=m))=true
 rw[zH e,zH c];rfl
theorem H' (n:Nat):gj (cB n)=false:=by
 by_cases h:n=0
 ·subst h;rw[dm];rfl
 cases hl:cB n with
 |nil=>rfl
 |cons b t=>
  have h1:=BA n h;rw[hl]at h1;show(b==0)=false
  exact zr.2 (by simpa using h1)
theorem L3 (M:Int)(J:M<=1024)(t:Ty):∀(n:Nat) (r:List UInt8),t.right=true->(t.rd M n r).e=0->SU M t n r (t.rd M n r):=by
 induction t using Ty.ind with
 |h k z l ta ih=>
  intro n r H h;obtain⟨B,w⟩:=ju H;by_cases d:M<=(n:Int)
  ·rw[J' d]at h;cases h
  rcases lu B with⟨rfl,I,m,o⟩|⟨rfl,s,p,m,o⟩|⟨rfl,s,p,m,o⟩|⟨rfl,s,p,m,o⟩|⟨rfl,s,p,K,N⟩
  ·rw[H6 d]at h⊢;by_cases c:r.length<z.toNat
   ·rw[zl c]at h;cases h
   rw[zj c];have y:=jq (r.take z.toNat);have i:(r.take z.toNat).length=z.toNat:=by rw[yc];omega
   rw[i]at y;have L:=gd z.toNat _ y;refine⟨?_,rfl,by simp[It.count,aH],by simp only;omega, ?_, ?_⟩
   ·simp only[It.dj,cR,Zt];exact SV (by rw[bD];omega) (by simpa using H' _)
   ·rw[tI];simp only;have e:=OF (r.take z.toNat);rw[i]at e;rw[J4,e,zL]
   simp[It.deep,cD,Ty.deep]
  ·rw[H7 d]at h⊢;by_cases c:r.length<z.toNat
   ·rw[zl c]at h;cases h
   rw[zj c];have i:(r.take z.toNat).length=z.toNat:=by rw[yc];omega
   refine⟨?_,rfl,by simp[It.count,aH],by simp only;omega, ?_, ?_⟩
   ·simp only[It.dj,cR,Zt];exact SW (by rw[bD];omega)
   ·rw[tJ];simp only;rw[zL]
   simp[It.deep,cD,Ty.deep]
  ·rw[uT d]at h⊢;by_cases b:(aw r).2.2≠0
   ·rw[zl b]at h;exact absurd h b
   rw[zj b]at h⊢;by_cases hz:z<((aw r).1:Int)
   ·rw[zl hz]at h;cases h
   rw[zj hz]at h⊢;by_cases c:(r.drop (aw r).2.1).length<(aw r).1
   ·rw[zl c]at h;cases h
   rw[zj c];obtain⟨E,A,u,D⟩:=iz r (aw r).1 (aw r).2.1 (by rw[<-zJ.1 b]);generalize aw r=C at*;have i:((r.drop C.2.1).take C.1).length=C.1:=by rw[yc];omega
   refine⟨?_,rfl,by simp[It.count,aH],by simp only;omega, ?_, ?_⟩
   ·simp only[It.dj,cR,Zt];exact LZ (by rw[bD];omega)
   ·rw[nG];simp only;rw[show(⟨((r.drop C.2.1).take C.1).toArray⟩:ByteArray).size=C.1 from by rw[bD,i],<-u,zI,zL,zL]
   simp[It.deep,cD,Ty.deep]
  ·rw[CD d]at h⊢;by_cases b:(aw r).2.2≠0
   ·rw[zl b]at h;exact absurd h b
   rw[zj b]at h⊢;by_cases hz:z<((aw r).1:Int)
   ·rw[zl hz]at h;cases h
   rw[zj hz]at h⊢;obtain⟨E,A,u,D⟩:=iz r (aw r).1 (aw r).2.1 (by rw[<-zJ.1 b]);generalize aw r=C at*;obtain⟨a,rfl⟩:=Yu.1 m;have q:∀j,(Ty.mk 4 z [a] ta).at j=a:=fun j=>by unfold Ty.at;simp
   have G:a.right=true:=by simpa[bK]using w
   simp only[rdF,kR.list]at h⊢;obtain⟨g1,g2,g3⟩:=EN (M:=M) (a:=a) (t:= .mk 4 z [a] ta) (fun n r h=>ih a (by simp) n r G h) C.1 0 (n+1) (r.drop C.2.1) (fun j=>q _) (by omega) h;generalize s9 (fun n r=>a.rd M n r) C.1 (n+1) (r.drop C.2.1)=R at*;refine⟨?_, ?_, ?_,g1.many, ?_, ?_⟩
   ·simp only[It.dj,g1.dj,Zt];exact OV (by rw[g2];omega)
   ·simp[It.right,g1.right,formed,ByteArray.size]
   ·simp only[It.count,g1.num];omega
   ·rw[pP,zI,<-g1.lay,g2,<-u,zL]
   simp only[It.deep,Ty.deep,dI];omega
  rw[tK d]at h⊢;have q:∀j (h:j<l.length),(Ty.mk 5 z l ta).at (0+j)=l[j]:=fun j h=>by unfold Ty.at;simp[h]
  simp only[kR.list]at h⊢;obtain⟨g1,g2,g3,g4⟩:=EO (M:=M) (t:= .mk 5 z l ta) l ((l.length:Int)-ta).toNat 0 (n+1) r q (fun a x n r h=>by
   obtain⟨j,F,rfl⟩:=xg x;exact ih _ x n r (dP w j F) h) (by omega) (by omega) h
  generalize nF M l ((l.length:Int)-ta).toNat (n+1) r=R at*;refine⟨?_, ?_, ?_,g1.many, ?_, ?_⟩
  ·simp only[It.dj,g1.dj,Zt];exact OW g3 (by omega)
  ·simp[It.right,g1.right,formed,ByteArray.size]
  ·simp only[It.count,g1.num];omega
  ·rw[mK];exact g1.lay
  simp only[It.deep,Ty.deep];omega
def iM (t:Ty)(x:It)(M:Int):Int:=if t.flat=false then 1 else if eI t x≠0 then eI t x else if M<x.count then 4 else 0
def mL (t:Ty)(x:It)(M:Int):ByteArray×Int:=if iM t x M=0 then(⟨(x.lay t).toArray⟩,0)else(⟨#[]⟩,iM t x M)
def nS (t:Ty)(s:ByteArray)(M:Int):Sa:=t.rd (min M 1024) 0 s.data.toList
def dk (t:Ty)(s:ByteArray)(M:Int):Int×It×Nat:=if t.flat=false then(1,i',0)else if(nS t s M).e≠0 then((nS t s M).e,i',0)else(0,(nS t s M).x,s.size-(nS t s M).q.length)
def jw (t:Ty)(s:ByteArray)(M:Int):Int×It:=if(dk t s M).1≠0 then((dk t s M).1,i')else if(dk t s M).2.2<s.size then(3,i')else(0,(dk t s M).2.1)
theorem jx {t:Ty}(h:t.flat=true):t.may=true/\t.right=true/\t.count<=64/\t.deep<=8/\bZ t.sub=true:=by
 simp only[Ty.flat,zF]at h;obtain⟨d,b,c⟩:=OP h.1;exact⟨h.1,c,d,b,h.2⟩
theorem rf {t:Ty}{x:It}(h:eI t x=0):t.may=true/\x.may=true/\x.dj t=true:=by
 unfold eI at h;cases h1:t.may<;>cases h2:x.may<;>cases h3:x.dj t<;>simp_all
theorem Wc {t:Ty}{x:It}(d:t.may=true)(b:x.may=true)(c:x.dj t=true):eI t x=0:=by
 unfold eI;simp[d,b,c]
theorem sA {x:It}(h:x.may=true):x.right=true/\x.deep<=16/\x.count<=1024:=by
 simpa only[It.may,zF,yk,and_assoc]using h
theorem OX {x:It}(d:x.right=true)(b:x.deep<=16)(c:x.count<=1024):x.may=true:=by
 simp only[It.may,zF,yk];exact⟨⟨d,b⟩,c⟩
theorem BC {t:Ty}{x:It}{M:Int}(h:iM t x M=0):t.flat=true/\eI t x=0/\(x.count:Int)<=M:=by
 unfold iM at h;cases h1:t.flat with
 |false=>rw[zl h1]at h;cases h
 |true=>
  rw[zj (by simp[h1])]at h;by_cases b:eI t x≠0
  ·rw[zl b]at h;exact absurd h b
  rw[zj b]at h;by_cases c:M<x.count
  ·rw[zl c]at h;cases h
  exact⟨rfl,zJ.1 b,by omega⟩
theorem EP (t:Ty)(s:ByteArray)(M:Int)(h:(dk t s M).1=0):iM t (dk t s M).2.1 M=0/\(dk t s M).2.2<=s.size/\(dk t s M).2.1.lay t=s.data.toList.take (dk t s M).2.2:=by
 unfold dk at h⊢;cases h1:t.flat with
 |false=>rw[zl h1]at h;cases h
 |true=>
  rw[zj (by simp[h1])]at h⊢;by_cases c:(nS t s M).e≠0
  ·rw[zl c]at h;exact absurd h c
  rw[zj c];obtain⟨d,i,m,k,n⟩:=jx h1;have b:=L3 (min M 1024) (by omega) t 0 s.data.toList i (zJ.1 c);change SU (min M 1024) t 0 s.data.toList (nS t s M)at b
  generalize nS t s M=R at*;have e:=xj List.length b.lay;rw[zo,aa]at e;have l:=b.many;have j:=b.num;have hd:=b.deep;refine⟨?_,by simp only;omega, ?_⟩
  ·unfold iM;simp only;rw[zj (by simp[h1]),Wc d (OX b.right (by omega) (by omega)) b.dj,zj (by simp),zj (by omega)]
  simp only;rw[b.lay,show s.size-R.q.length=(R.x.lay t).length from by omega,ZQ rfl]
theorem Ia (t:Ty)(s:ByteArray)(M:Int)(h:(jw t s M).1=0):iM t (jw t s M).2 M=0/\(jw t s M).2.lay t=s.data.toList:=by
 unfold jw at h⊢;by_cases b:(dk t s M).1≠0
 ·rw[zl b]at h;exact absurd h b
 rw[zj b]at h⊢;by_cases c:(dk t s M).2.2<s.size
 ·rw[zl c]at h;cases h
 rw[zj c];obtain⟨d,a2,a3⟩:=EP t s M (zJ.1 b);refine⟨d, ?_⟩;rw[a3,zC (by rw[aa];omega)]
def l9 (i:Int):Prop:= -9223372036854775808<=i/\i<=9223372036854775807
mutual
def cw (w:World)(B:Nat):Ty->Value->Value->Value->Value->Prop
 | .mk k s l t,c0,c1,c2,c3=>c0= .int .i64 k/\c1= .int .i64 s/\c3= .int .i64 t/\l9 k/\l9 s/\l9 t/\l.length<=9223372036854775807/\∃A cap,c2= .slice A l.length cap/\l.length<=cap/\cap<=9223372036854775807/\eU w B l A 0
def eU (w:World)(B:Nat):List Ty->Option Addr->Nat->Prop
 | [],_,_=>True
 |x::xs,A,i=>(∃b o c0 c1 c2 c3,A=some ⟨b,o,none⟩/\b<B/\w.cell? ⟨b,o+i*4,none⟩=some c0/\w.cell? ⟨b,o+i*4+1,none⟩=some c1/\w.cell? ⟨b,o+i*4+2,none⟩=some c2/\w.cell? ⟨b,o+i*4+3,none⟩=some c3/\cw w B x c0 c1 c2 c3)/\eU w B xs A (i+1)
end
theorem eU.at_ {w:World}{B:Nat}{A:Option Addr}:∀{s:List Ty} {i:Nat},eU w B s A i->∀(j:Nat) (h:j<s.length),∃b o k d c e,A=some ⟨b,o,none⟩/\b<B/\w.cell? ⟨b,o+(i+j)*4,none⟩=some k/\w.cell? ⟨b,o+(i+j)*4+1,none⟩=some d/\w.cell? ⟨b,o+(i+j)*4+2,none⟩=some c/\w.cell? ⟨b,o+(i+j)*4+3,none⟩=some e/\cw w B s[j] k d c e
 | [],_,_,j,h=>by simp at h
 |x::xs,i,hi,0,_=>by simpa[eU]using hi.1
 |x::xs,i,hi,j+1,h=>by
  have:=eU.at_ hi.2 j (by simpa using h);rw[show i+1+j=i+(j+1)from by omega]at this;simpa using this
theorem eU.En {w:World}{B:Nat}{A:Option Addr}:∀{s:List Ty} {i:Nat},(∀(j:Nat) (h:j<s.length),∃b o d c e k,A=some ⟨b,o,none⟩/\b<B/\w.cell? ⟨b,o+(i+j)*4,none⟩=some d/\w.cell? ⟨b,o+(i+j)*4+1,none⟩=some c/\w.cell? ⟨b,o+(i+j)*4+2,none⟩=some e/\w.cell? ⟨b,o+(i+j)*4+3,none⟩=some k/\cw w B s[j] d c e k)->eU w B s A i
 | [],_,_=>by simp[eU]
 |x::xs,i,h=>by
  refine⟨h 0 (ZH _),eU.En fun j l=> ?_⟩;have:=h (j+1) (by simpa using l);rw[show i+(j+1)=i+1+j from by omega]at this;simpa using this
theorem cw.open_ {w:World}{B:Nat}{x:Ty}{c b d e:Value}(h:cw w B x c b d e):∃A cap,c= .int .i64 x.kind/\b= .int .i64 x.size/\d= .slice A x.sub.length cap/\e= .int .i64 x.tail/\l9 x.kind/\l9 x.size/\l9 x.tail/\x.sub.length<=cap/\cap<=9223372036854775807/\eU w B x.sub A 0:=by
 cases x with
 |mk k s l t=>
  obtain⟨m,q,u,r,n,o,z,A,cap,j,y,p,i⟩:=h;exact⟨A,cap,m,q,j,u,r,n,o,y,p,i⟩
theorem cw.ag {w w':World}{B r:Nat}(R:B<=r)(d:∀p:Addr,p.block<B->w'.cell? p=w.cell? p):∀(x:Ty) {n m i e:Value},cw w B x n m i e->cw w' r x n m i e:=by
 intro x;induction x using Ty.ind with
 |h k s l t ih=>
  intro n m i e h;obtain⟨N,I,K,G,y,z,J,A,cap,M,L,F,E⟩:=h;refine⟨N,I,K,G,y,z,J,A,cap,M,L,F,eU.En fun j q=> ?_⟩;obtain⟨b,o,d0,d1,d2,d3,C,c,u,H,O,D,hi⟩:=E.at_ j q;exact⟨b,o,d0,d1,d2,d3,C,by omega,(d _ c).trans u,(d _ c).trans H,(d _ c).trans O,(d _ c).trans D,ih _ (zM q) hi⟩
theorem cw.below {w w':World}{B:Nat}{x:Ty}{c b d e:Value}(h:cw w B x c b d e)(i:Below B w w'):cw w' B x c b d e:=cw.ag (zi _) (fun _ j=>i.cell j) x h
theorem cw.mono {w:World}{B c:Nat}{x:Ty}{d b i e:Value}(h:cw w B x d b i e)(j:B<=c):cw w c x d b i e:=cw.ag j (fun _ _=>rfl) x h
theorem eU.ag {w w':World}{B e:Nat}(u:B<=e)(c:∀p:Addr,p.block<B->w'.cell? p=w.cell? p){s:List Ty}{A:Option Addr}{i:Nat}(h:eU w B s A i):eU w' e s A i:=eU.En fun j r=>by
 obtain⟨b,o,d0,d1,d2,d3,n,d,m,k,l,q,hi⟩:=h.at_ j r;exact⟨b,o,d0,d1,d2,d3,n,by omega,(c _ d).trans m,(c _ d).trans k,(c _ d).trans l,(c _ d).trans q,hi.ag u c⟩
theorem eU.below {w w':World}{B i:Nat}{s:List Ty}{A:Option Addr}(h:eU w B s A i)(b:Below B w w'):eU w' B s A i:=h.ag (zi _) (fun _ c=>b.cell c)
theorem aL {w:World}{g:Nat}{t:TypeId}{a b c d:Value}(h:af w g t #[a,b,c,d]):w.cell? ⟨g,0,none⟩=some a/\w.cell? ⟨g,1,none⟩=some b/\w.cell? ⟨g,2,none⟩=some c/\w.cell? ⟨g,3,none⟩=some d/\w.frozen? ⟨g,0,none⟩=false/\w.frozen? ⟨g,1,none⟩=false/\w.frozen? ⟨g,2,none⟩=false/\w.frozen? ⟨g,3,none⟩=false:=
 ⟨h.cell 0,h.cell 1,h.cell 2,h.cell 3,h.frozen 0,h.frozen 1,h.frozen 2,h.frozen 3⟩
theorem L5 {w w':World}{t:TypeId}{a b c d:Value}(e:Below (w.heap.size+1) (w.alloc (.cells #[a,b,c,d] t)) w'):w'.cell? ⟨w.heap.size,0,none⟩=some a/\w'.cell? ⟨w.heap.size,1,none⟩=some b/\w'.cell? ⟨w.heap.size,2,none⟩=some c/\w'.cell? ⟨w.heap.size,3,none⟩=some d:=by
 have i:=af.new w t #[a,b,c,d];have h:af w' w.heap.size t #[a,b,c,d]:=(e.block _ (by omega)).trans i;exact⟨h.cell 0,h.cell 1,h.cell 2,h.cell 3⟩
