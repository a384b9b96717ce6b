/- How large the frame is that bytes tell. -/
import Derived.Test.YtpjgigllldipiaaGreatDoorKA4
import Derived.Test.YtpjgigllldipiaaGreatDoorKA3
set_option linter.all false
namespace Go.Proofs.YtpjgigllldipiaaGreatDoor
def zr:=@beq_eq_false_iff_ne
def zH:=@decide_eq_true
def yo:=@of_decide_eq_true
def yY:=@List.getElem_cons_zero
def xj:=@Nat.add_zero
def Zt:=@Bool.and_true
def ZP:=@List.take_left'
def ZR:=@List.drop_left'
def ZU:=@List.getD_cons_zero
def Yt:=@List.length_eq_one_iff
theorem Ow (s:ByteArray)(size k b:Nat)(out:List UInt8)(h:out.length<=size)(c:(bT s size k b out).1=0):(bT s size k b out).2.2.length<=size:=by
 unfold bT at c⊢;by_cases i:s.size<k+bd b
 ·rw[zl i];exact h
 rw[zj i]at c⊢;by_cases j:(b%4≠0/\(jP b (ij s k b)=0\/out.length<jP b (ij s k b)))\/size-out.length<cH b (ij s k b)
 ·rw[zl j];exact h
 rw[zj j]at c⊢;by_cases e:b%4=0
 ·rw[zl e]at c⊢;by_cases d:s.size<k+bd b+cH b (ij s k b)
  ·rw[zl d];exact h
  rw[zj d];simp only[zp,aa];rw[an _ _ _ (by omega)];omega
 rw[zj e];simp only[tV];omega
theorem JG (s:ByteArray)(size:Nat):∀(f k:Nat) (out:List UInt8),out.length<=size->(gK s size f k out).2.length<=size
 |0,k,out,_=>by simp[gK]
 |f+1,k,out,h=>by
  unfold gK;by_cases c:k<s.size
  ·rw[Ym c];by_cases b:(bT s size k s[k].toNat out).1=0
   ·rw[zl b];exact JG s size f _ _ (Ow s size k _ out h b)
   rw[zj b];simp
  rw[dif_neg c];split
  ·simp
  exact h
theorem Ew (b c:Int)(s:ByteArray):(((aS b c s).2.2.1.size:Nat):Int)<=max c 0:=by
 rw[bI];split
 ·show((0:Nat):Int)<=_;omega
 split
 ·show((0:Nat):Int)<=_;omega
 split
 ·show((0:Nat):Int)<=_;omega
 split
 ·show((0:Nat):Int)<=_;omega
 rename_i i e d h
 show(((ba (ai b s).2.2.1 c).2.length:Nat):Int)<=_
 unfold ba iD;rw[zj e,zj d];have:=JG ((ai b s).2.2.1.extract (aB (ai b s).2.2.1).2.1 (ai b s).2.2.1.size) (aB (ai b s).2.2.1).1 (((ai b s).2.2.1.extract (aB (ai b s).2.2.1).2.1 (ai b s).2.2.1.size).size+1) 0 [] (by simp);omega
theorem G8 (s:ByteArray)(a b:Nat):(s.extract a b).size<=s.size:=by simp;omega
theorem G9 (s:ByteArray):(cS s).2.size<=12:=by
 unfold cS;split
 ·rename_i h;exact(dW h.2).2
 exact ym _
theorem Ex (m:Nat)(most:Int)(s:ByteArray):(aV m most s).2.1.size<=12/\(aV m most s).2.2.1.size<=s.size:=by
 unfold aV;repeat' split
 all_goals dsimp only
 all_goals first|with_reducible exact⟨G9 _,G8 _ _ _⟩|exact⟨by simp,by simp⟩
theorem Ey (most:Int)(s:ByteArray):(ai most s).2.2.1.size<=s.size:=by
 by_cases h:(ai most s).1=0
 ·rw[eo]at h⊢;generalize ar most s=p at*;generalize aw (s.extract p.2.1 (p.2.1+p.1))=q at*;by_cases b:p.2.2≠0
  ·rw[zl b];exact ym _
  rw[zj b]at h⊢;by_cases d:s.size<p.2.1+p.1
  ·rw[zl d];exact ym _
  rw[zj d]at h⊢;by_cases c:q.2.2≠0
  ·rw[zl c];exact ym _
  rw[zj c];exact zK (G8 _ _ _) (G8 _ _ _)
 rw[Ol most s h];exact ym _
theorem LA (c:aR)(s:ByteArray):(bo c s).2.1.nm.size<=12/\(((bo c s).2.1.body.size:Nat):Int)<=max (s.size:Int) (max c.un 0):=by
 unfold bo;split
 ·have:=Ex c.mg c.fr s;exact⟨this.1,by have:=this.2;show(((aV c.mg c.fr s).2.2.1.size:Nat):Int)<=_;omega⟩
 split
 ·have:=Ey c.fr s;exact⟨ym _,by show(((ai c.fr s).2.2.1.size:Nat):Int)<=_;omega⟩
 have:=Ew c.fr c.un s;exact⟨ym _,by show(((aS c.fr c.un s).2.2.1.size:Nat):Int)<=_;omega⟩
open Go.RowKit
def iq (c:aR)(b:ByteArray)(nd:Nat):Prop:=∀T:ByteArray,(b++T).size<nd->(aW c (b++T)).1=2
theorem iq.zero (c:aR)(b:ByteArray):iq c b 0:=fun T h=>absurd h (by omega)
theorem iq.here {c:aR}{b:ByteArray}{d:Nat}(h:iq c b d)(e:b.size<d):(aW c b).1=2:=by
 have:=h ByteArray.empty (by rw[kH];exact e);rwa [kH]at this
theorem iq.more {c:aR}{b:ByteArray}{i:Nat}(h:iq c b i)(s:ByteArray):iq c (b++s) i:=fun T d=>by
 have e:b++s++T=b++(s++T):=aL (by simp only[bn,zI]);rw[e]at d⊢;exact h _ d
theorem iq.of {c:aR}(e:c.right=true){b:ByteArray}(h:(aW c b).1=2):iq c b (gB c b):=fun T d=>by
 rw[bR e]at h⊢;exact Eo c b T h d
theorem dv {v:Value}{k:Nat}:k∈v.ownBlock.toList↔v.ownBlock=some k:=by simp
theorem l6.only {a b:World}{v c:Value}(h:l6 a b v c):ae v.ownBlock.toList a b:=ae.gz h.grown
theorem bJ.pF {w w':World}{base:Nat}{E:TypeId}{v:Value}{l:List UInt8}{L:List Nat}(h:bJ w base E v l)(c:ae L w w')(b:∀k,v.ownBlock=some k->k∉L):bJ w' base E v l:=h.ah fun k d e=>c.block k d (b k e)
def oC (g:Nat)(bv:Value):List Nat:=g::bv.ownBlock.toList
theorem jt {g:Nat}{b:Value}{k:Nat}:k∈oC g b↔k=g\/b.ownBlock=some k:=by simp[oC]
def bu (n:Nat):Nat:=if n<253 then n else if n<65536 then 253 else if n<4294967296 then 254 else 255
def bh (b:Nat):Nat:=if b=253 then 2 else if b=254 then 4 else 8
def dq (n:Nat):List UInt8:=if n<253 then [ub n]else ub (bu n)::je n (bh (bu n))
def au :List UInt8->Nat×Nat×Int
 | []=>(0,0,2)
 |b::t=>if b.toNat<253 then(b.toNat,1,0)else if t.length<bh b.toNat then(0,0,2)
  else if bu (cV (t.take (bh b.toNat)))=b.toNat then(cV (t.take (bh b.toNat)),1+bh b.toNat,0)else(0,0,3)
theorem mA (b:Nat):2<=bh b/\bh b<=8:=by unfold bh;split<;>(try split)<;>omega
theorem G' (n:Nat):bu n<256:=by unfold bu;split<;>(try split)<;>(try split)<;>omega
theorem Ha {n:Nat}(h:¬n<253):253<=bu n:=by unfold bu;rw[zj h];split<;>(try split)<;>omega
theorem tA {n:Nat}(h:¬n<253)(d:n<18446744073709551616):n<2^(8*bh (bu n)):=by
 unfold bu;rw[zj h];by_cases b:n<65536
 ·rw[zl b];show n<2^16;omega
 rw[zj b];by_cases c:n<4294967296
 ·rw[zl c];show n<2^32;omega
 rw[zj c];show n<2^64;omega
theorem iT (n:Nat):1<=(dq n).length/\(dq n).length<=9:=by
 unfold dq;split
 ·simp
 have:=mA (bu n);simp[bc];omega
theorem uH (n:Nat)(q:List UInt8)(b:n<18446744073709551616):au (dq n++q)=(n,(dq n).length,0):=by
 unfold dq;by_cases h:n<253
 ·rw[zl h];simp only[ya,yE,au,bg n (by omega),zl h,yF]
 rw[zj h];have d:=Ha h;have c:=G' n;simp only[ya,au,bg _ c,zj (show¬bu n<253 by omega)];rw[zj (by rw[zp,bc];omega),ZP (bc _ _),Of _ _ (tA h b),zl rfl];simp[bc,ZA]
theorem ir (r:List UInt8)(n z:Nat)(h:au r=(n,z,0)):n<18446744073709551616/\z<=r.length/\r.take z=dq n/\(dq n).length=z:=by
 cases r with
 |nil=>cases h
 |cons b t=>
  have m:=b.toNat_lt;have j:ub (b.toNat:Nat)=b:=by apply zW.1;rw[bg _ m]
  simp only[au]at h;by_cases c:b.toNat<253
  ·rw[zl c]at h;injection h with e1 e2;injection e2 with e2 _;subst e1 e2;refine⟨by omega,by simp, ?_, ?_⟩
   ·unfold dq;rw[zl c,j];rfl
   unfold dq;rw[zl c];rfl
  rw[zj c]at h;by_cases k:t.length<bh b.toNat
  ·rw[zl k]at h;injection h with _ h;injection h with _ h;cases h
  rw[zj k]at h;by_cases e:bu (cV (t.take (bh b.toNat)))=b.toNat
  ·rw[zl e]at h;injection h with e1 e2;injection e2 with e2 _;have q:=jm (t.take (bh b.toNat));have d:(t.take (bh b.toNat)).length=bh b.toNat:=by rw[yc];omega
   have o:=mA b.toNat;rw[d]at q;have s:2^(8*bh b.toNat)<=18446744073709551616:=le_pow _ o.2;have i:dq n=b::t.take (bh b.toNat):=by
    subst e1;have l:¬cV (t.take (bh b.toNat))<253:=by
     intro p;have:bu (cV (t.take (bh b.toNat)))=cV (t.take (bh b.toNat)):=by unfold bu;rw[zl p]
     omega
    unfold dq;rw[zj l,e,j];congr 1
    have:=Og (t.take (bh b.toNat));rwa [d]at this
   refine⟨by omega,by simp only[zD];omega, ?_, ?_⟩
   ·rw[i,<-e2,ZA,zR]
   rw[i,zD,d];omega
  rw[zj e]at h;injection h with _ h;injection h with _ h;cases h
theorem Ez (r:List UInt8):au (r.take 9)=au r:=by
 cases r with
 |nil=>rfl
 |cons b t=>
  have c:=mA b.toNat;simp only[zR,au];rw[xD,show min (bh b.toNat) 8=bh b.toNat from by omega,yc];by_cases h:t.length<bh b.toNat
  ·rw[zl (show min 8 t.length<bh b.toNat by omega),zl h]
  rw[zj (show¬min 8 t.length<bh b.toNat by omega),zj h]
theorem JH (n:Nat):la (cA n)=n:=by
 induction n using Nat.strongRecOn with
 |ind n ih=>
  by_cases h:n=0
  ·subst h;rw[da];rfl
  rw[gA h,tS,ih (n/256) (by omega),bg _ (by omega)];omega
theorem JI (n:Nat)(h:n≠0):cA n≠ []:=by rw[gA h];simp
theorem Br (n:Nat)(h:n≠0):(cA n).getD 0 0≠0:=by
 induction n using Nat.strongRecOn with
 |ind n ih=>
  rw[gA h];by_cases c:n/256=0
  ·rw[c,da,yE];intro e;have d:=bg (n%256) (by omega);simp only[ZU]at e;rw[e]at d;simp at d;omega
  have:=ih (n/256) (by omega) c;cases hl:cA (n/256)with
  |nil=>exact absurd hl (JI _ c)
  |cons a b=>rw[hl]at this;simpa using this
theorem EA (l:List UInt8)(h:l.getD 0 0≠0):cA (la l)=l:=by
 obtain⟨k,c⟩:∃k,l.length=k:=⟨_,rfl⟩
 induction k generalizing l with
 |zero=>obtain rfl:=zw c;simp at h
 |succ k ih=>
  have d:l≠ []:=by intro e;subst e;simp at c
  have e:=List.dropLast_concat_getLast d;have p:=(l.getLast d).toNat_lt;by_cases o:k=0
  ·subst o;match l,c with
   | [b],_=>
    have m:b.toNat≠0:=fun e=>h (by simp;exact zW.1 e)
    have r:=b.toNat_lt;have n:la [b]=b.toNat:=by simp[la,cV]
    rw[n,gA m,show b.toNat/256=0 from by omega,da,yE];congr 1
    apply zW.1;rw[bg _ (by omega)];omega
  have j:l.dropLast.getD 0 0≠0:=by
   have:l.dropLast.getD 0 0=l.getD 0 0:=by
    rw[zA,zA,List.getElem?_dropLast,zl (by omega)]
   rw[this];exact h
  have i:=ih l.dropLast j (by rw[List.length_dropLast];omega);rw[<-e,tS,gA,show(256*la l.dropLast+(l.getLast d).toNat)/256=la l.dropLast from by omega,i]
  ·congr 2
   apply zW.1;rw[bg _ (by omega)];omega
  intro q;have:la l.dropLast=0:=by omega
  rw[this,da]at i;rw[<-i]at j;simp at j
def cw (b n:Nat):List UInt8:=if n<=55 then [ub ((b+n:Nat):Int)]else ub ((b+55+(cA n).length:Nat):Int)::cA n
mutual
def It.fA :It->List UInt8
 | .mk t l s=>if l=true then cw 192 (fc s).length++fc s else if t.size=1/\(t.data.toList.getD 0 0).toNat<128 then t.data.toList else cw 128 t.size++t.data.toList
def fc :List It->List UInt8
 | []=> []
 |x::xs=>x.fA++fc xs
end
def kK (b:List UInt8):List UInt8:=cw 192 b.length++b
def dY (xs:List It)(b:List UInt8)(rest:List (List It×List UInt8)):List UInt8:=rest.foldl (fun inner f=>f.2++(kK inner++fc f.1)) (b++fc xs)
theorem oD (b c:List UInt8)(d:List It)(rest:List (List It×List UInt8)):dY [] b ((d,c)::rest)=dY d (c++kK b) rest:=by simp[dY,fc]
theorem mC (x:It)(xs:List It)(b:List UInt8)(rest:List (List It×List UInt8)):dY (x::xs) b rest=dY xs (b++x.fA) rest:=by simp[dY,fc]
theorem EB (t:ByteArray)(s:List It)(xs:List It)(b:List UInt8)(rest:List (List It×List UInt8)):dY (.mk t true s::xs) b rest=dY s [] ((xs,b)::rest):=by simp[dY,fc,It.fA,kK]
def wU (s:ByteArray):Bool×Nat×Nat×Int:=
 let b:=(s.data.toList.getD 0 0).toNat
 if b<128 then(false,0,1,0)
 else
  let l:=decide (192<=b)
  let told:=if 192<=b then b-192 else b-128
  let size:=if told<=55 then 1 else 1+(told-55)
  let n:=if told<=55 then told else la (s.extract 1 size).data.toList
  if told<=55 then
   if s.size<size+n then(false,0,0,2)
   else if l=false/\n=1/\(s.data.toList.getD 1 0).toNat<128 then(false,0,0,3)
   else(l,1,told,0)
  else
   if s.size<size then(false,0,0,2)
   else if(s.data.toList.getD 1 0).toNat=0\/n<=55 then(false,0,0,3)
   else if s.size<size+n then(false,0,0,2)
   else(l,size,n,0)
def hd (s:ByteArray)(deep many:Bool):Bool×Nat×Nat×Int:=
 if s.size=0 then(false,0,0,2)else if deep=true then(false,0,0,6)else if many=true then(false,0,0,4)else wU s
theorem VM (s:ByteArray)(k:0<s.size)(h:(wU s).2.2.2=0):(wU s).2.1+(wU s).2.2.1<=s.size/\1<=(wU s).2.1+(wU s).2.2.1/\((wU s).1=true->1<=(wU s).2.1):=by
 unfold wU at h⊢;dsimp only at h⊢;generalize (s.data.toList.getD 0 0).toNat=b at*;by_cases e:b<128
 ·rw[zl e]at h⊢;dsimp only;refine⟨by omega,by omega,by simp⟩
 rw[zj e]at h⊢;generalize (if 192<=b then b-192 else b-128)=told at*;by_cases i:told<=55
 ·simp only[zl i]at h⊢;by_cases c:s.size<1+told
  ·rw[zl c]at h;simp at h
  rw[zj c]at h⊢;split at h
  ·simp at h
  rename_i d;rw[zj d];dsimp only;refine⟨by omega,by omega,fun _=>by omega⟩
 simp only[zj i]at h⊢;generalize la (s.extract 1 (1+(told-55))).data.toList=n at*;by_cases c:s.size<1+(told-55)
 ·rw[zl c]at h;simp at h
 rw[zj c]at h⊢;split at h
 ·simp at h
 rename_i d
 rw[zj d];split at h
 ·simp at h
 rename_i j
 rw[zj j];dsimp only;refine⟨by omega,by omega,fun _=>by omega⟩
theorem sm (s:ByteArray)(d m:Bool)(h:(hd s d m).2.2.2=0):0<s.size/\(hd s d m).2.1+(hd s d m).2.2.1<=s.size/\1<=(hd s d m).2.1+(hd s d m).2.2.1/\((hd s d m).1=true->1<=(hd s d m).2.1):=by
 unfold hd at h⊢;by_cases c:s.size=0
 ·rw[zl c]at h;simp at h
 rw[zj c]at h⊢;by_cases b:d=true
 ·rw[zl b]at h;simp at h
 rw[zj b]at h⊢;by_cases e:m=true
 ·rw[zl e]at h;simp at h
 rw[zj e]at h⊢;exact⟨by omega,VM s (by omega) h⟩
structure Rd where
 x:It
 size:Nat
 items:Nat
 e:Int
structure JJ where
 xs:List It
 items:Nat
 e:Int
def iU :It:= .mk ByteArray.empty false []
def Rd.bad (e:Int):Rd:=⟨iU,0,0,e⟩
def JJ.bad (e:Int):JJ:=⟨[],0,e⟩
def aE (D:Int)(deep:Nat):Bool:=decide (D<deep)||decide (16<deep)
def aF (M:Int)(ahead:Nat):Bool:=decide (M<ahead+1)||decide (1024<ahead+1)
def within (e:Int):Int:=if e=2 then 3 else e
mutual
def pG (D M:Int):Nat->ByteArray->Nat->Nat->Rd
 |0,_,_,_=>Rd.bad 2
 |f+1,s,deep,ahead=>
  if(hd s (aE D deep) (aF M ahead)).2.2.2≠0 then Rd.bad (hd s (aE D deep) (aF M ahead)).2.2.2
  else if(hd s (aE D deep) (aF M ahead)).1=false then
   ⟨.mk (s.extract (hd s (aE D deep) (aF M ahead)).2.1 ((hd s (aE D deep) (aF M ahead)).2.1+(hd s (aE D deep) (aF M ahead)).2.2.1)) false [],
    (hd s (aE D deep) (aF M ahead)).2.1+(hd s (aE D deep) (aF M ahead)).2.2.1,1,0⟩
  else
   if(EC D M f (s.extract (hd s (aE D deep) (aF M ahead)).2.1 ((hd s (aE D deep) (aF M ahead)).2.1+(hd s (aE D deep) (aF M ahead)).2.2.1)) (deep+1) (ahead+1)).e≠0
   then Rd.bad (EC D M f (s.extract (hd s (aE D deep) (aF M ahead)).2.1 ((hd s (aE D deep) (aF M ahead)).2.1+(hd s (aE D deep) (aF M ahead)).2.2.1)) (deep+1) (ahead+1)).e
   else⟨.mk ByteArray.empty true (EC D M f (s.extract (hd s (aE D deep) (aF M ahead)).2.1 ((hd s (aE D deep) (aF M ahead)).2.1+(hd s (aE D deep) (aF M ahead)).2.2.1)) (deep+1) (ahead+1)).xs,
    (hd s (aE D deep) (aF M ahead)).2.1+(hd s (aE D deep) (aF M ahead)).2.2.1,
    1+(EC D M f (s.extract (hd s (aE D deep) (aF M ahead)).2.1 ((hd s (aE D deep) (aF M ahead)).2.1+(hd s (aE D deep) (aF M ahead)).2.2.1)) (deep+1) (ahead+1)).items,0⟩
def EC (D M:Int):Nat->ByteArray->Nat->Nat->JJ
 |0,_,_,_=>JJ.bad 2
 |f+1,s,deep,ahead=>
  if s.size=0 then⟨[],0,0⟩
  else if(pG D M f s deep ahead).e≠0 then JJ.bad (within (pG D M f s deep ahead).e)
  else if(EC D M f (s.extract (pG D M f s deep ahead).size s.size) deep (ahead+(pG D M f s deep ahead).items)).e≠0
   then JJ.bad (EC D M f (s.extract (pG D M f s deep ahead).size s.size) deep (ahead+(pG D M f s deep ahead).items)).e
  else⟨(pG D M f s deep ahead).x::(EC D M f (s.extract (pG D M f s deep ahead).size s.size) deep (ahead+(pG D M f s deep ahead).items)).xs,
   (pG D M f s deep ahead).items+(EC D M f (s.extract (pG D M f s deep ahead).size s.size) deep (ahead+(pG D M f s deep ahead).items)).items,0⟩
end
theorem mD (D M:Int)(f:Nat)(s:ByteArray)(deep ahead:Nat)(h:(pG D M f s deep ahead).e=0):1<=(pG D M f s deep ahead).size/\(pG D M f s deep ahead).size<=s.size:=by
 cases f with
 |zero=>simp[pG,Rd.bad]at h
 |succ f=>
  rw[pG]at h⊢;have d:=sm s (aE D deep) (aF M ahead);generalize hd s (aE D deep) (aF M ahead)=H at*;by_cases b:H.2.2.2≠0
  ·rw[zl b]at h;exact absurd h b
  rw[zj b]at h⊢;have d:=d (zJ.1 b);by_cases e:H.1=false
  ·rw[zl e];dsimp only;omega
  rw[zj e]at h⊢;split at h
  ·rename_i c;exact absurd h c
  rename_i c;rw[zj c];dsimp only;omega
theorem Cv (D M:Int):∀(z:Nat),(∀(s:ByteArray) (deep ahead f g:Nat),s.size<=z->2*s.size<=f->2*s.size<=g->pG D M f s deep ahead=pG D M g s deep ahead)/\
 (∀(s:ByteArray) (deep ahead f g:Nat),s.size<=z->2*s.size+1<=f->2*s.size+1<=g->EC D M f s deep ahead=EC D M g s deep ahead):=by
 intro z;induction z with
 |zero=>
  refine⟨fun s deep ahead f g hz _ _=> ?_,fun s deep ahead f g hz i h=> ?_⟩
  ·have e:s.size=0:=by omega
   have p:∀d m,hd s d m=(false,0,0,2):=fun d m=>by simp[hd,e]
   have:∀f,pG D M f s deep ahead=Rd.bad 2:=by
    intro f;cases f with
    |zero=>rfl
    |succ f=>rw[pG];simp[p]
   rw[this f,this g]
  obtain⟨f,rfl⟩:∃k,f=k+1:=⟨f-1,by omega⟩
  obtain⟨g,rfl⟩:∃k,g=k+1:=⟨g-1,by omega⟩
  rw[EC,EC,zl (by omega),zl (by omega)]
 |succ z ih=>
  obtain⟨q,j⟩:=ih;have n:∀(s:ByteArray) (deep ahead f g:Nat),s.size<=z+1->2*s.size<=f->2*s.size<=g->pG D M f s deep ahead=pG D M g s deep ahead:=by
   intro s deep ahead f g hz i h;by_cases e:s.size=0
   ·exact q s deep ahead f g (by omega) i h
   obtain⟨f,rfl⟩:∃k,f=k+1:=⟨f-1,by omega⟩
   obtain⟨g,rfl⟩:∃k,g=k+1:=⟨g-1,by omega⟩
   rw[pG,pG];have c:=sm s (aE D deep) (aF M ahead);generalize hd s (aE D deep) (aF M ahead)=H at*;by_cases b:H.2.2.2≠0
   ·rw[zl b,zl b]
   have c:=c (zJ.1 b);by_cases l:H.1=false
   ·rw[zj b,zj b,zl l,zl l]
   have r:=c.2.2.2 (by simpa using l);have o:(s.extract H.2.1 (H.2.1+H.2.2.1)).size=H.2.2.1:=by rw[an _ _ _ c.2.1];omega
   rw[j (s.extract H.2.1 (H.2.1+H.2.2.1)) (deep+1) (ahead+1) f g (by omega) (by omega) (by omega)]
  refine⟨n,fun s deep ahead f g hz i h=> ?_⟩;by_cases e:s.size=0
  ·exact j s deep ahead f g (by omega) i h
  obtain⟨f,rfl⟩:∃k,f=k+1:=⟨f-1,by omega⟩
  obtain⟨g,rfl⟩:∃k,g=k+1:=⟨g-1,by omega⟩
  rw[EC,EC,zj e,zj e,n s deep ahead f g hz (by omega) (by omega)];have c:=mD D M g s deep ahead;generalize pG D M g s deep ahead=R at*;by_cases b:R.e≠0
  ·rw[zl b,zl b]
  have c:=c (zJ.1 b);have o:(s.extract R.size s.size).size=s.size-R.size:=an _ _ _ (zf _);rw[j (s.extract R.size s.size) deep (ahead+R.items) f g (by omega) (by omega) (by omega)]
def bp (D M:Int)(s:ByteArray)(deep ahead:Nat):Rd:=pG D M (2*s.size+2) s deep ahead
def cK (D M:Int)(s:ByteArray)(deep ahead:Nat):JJ:=EC D M (2*s.size+1) s deep ahead
theorem dK (D M:Int)(s:ByteArray)(deep ahead:Nat)(H:Bool×Nat×Nat×Int)(e:hd s (aE D deep) (aF M ahead)=H):bp D M s deep ahead=
 if H.2.2.2≠0 then Rd.bad H.2.2.2
 else if H.1=false then⟨.mk (s.extract H.2.1 (H.2.1+H.2.2.1)) false [],H.2.1+H.2.2.1,1,0⟩
 else if(cK D M (s.extract H.2.1 (H.2.1+H.2.2.1)) (deep+1) (ahead+1)).e≠0 then Rd.bad (cK D M (s.extract H.2.1 (H.2.1+H.2.2.1)) (deep+1) (ahead+1)).e
 else⟨.mk ByteArray.empty true (cK D M (s.extract H.2.1 (H.2.1+H.2.2.1)) (deep+1) (ahead+1)).xs,H.2.1+H.2.2.1,1+(cK D M (s.extract H.2.1 (H.2.1+H.2.2.1)) (deep+1) (ahead+1)).items,0⟩:=by
 subst e;rw[bp,pG];have c:=sm s (aE D deep) (aF M ahead);generalize hd s (aE D deep) (aF M ahead)=H at*;by_cases b:H.2.2.2≠0
 ·rw[zl b,zl b]
 have c:=c (zJ.1 b);by_cases d:H.1=false
 ·rw[zj b,zj b,zl d,zl d]
 have h:(s.extract H.2.1 (H.2.1+H.2.2.1)).size=H.2.2.1:=by rw[an _ _ _ c.2.1];omega
 rw[cK,(Cv D M s.size).2 (s.extract H.2.1 (H.2.1+H.2.2.1)) (deep+1) (ahead+1) (2*s.size+1) (2*(s.extract H.2.1 (H.2.1+H.2.2.1)).size+1) (by omega) (by omega) (by omega)]
theorem jf (D M:Int)(s:ByteArray)(deep ahead:Nat)(h:s.size=0):cK D M s deep ahead=⟨[],0,0⟩:=by rw[cK,EC,zl h]
theorem gV (D M:Int)(s:ByteArray)(deep ahead:Nat)(h:s.size≠0)(R:Rd)(d:bp D M s deep ahead=R):cK D M s deep ahead=
 if R.e≠0 then JJ.bad (within R.e)
 else if(cK D M (s.extract R.size s.size) deep (ahead+R.items)).e≠0 then JJ.bad (cK D M (s.extract R.size s.size) deep (ahead+R.items)).e
 else⟨R.x::(cK D M (s.extract R.size s.size) deep (ahead+R.items)).xs,R.items+(cK D M (s.extract R.size s.size) deep (ahead+R.items)).items,0⟩:=by
 subst d;rw[cK,EC,zj h,bp,(Cv D M s.size).1 s deep ahead (2*s.size) (2*s.size+2) (by omega) (by omega) (by omega)];have c:=mD D M (2*s.size+2) s deep ahead;generalize pG D M (2*s.size+2) s deep ahead=R at*;by_cases b:R.e≠0
 ·rw[zl b,zl b]
 have c:=c (zJ.1 b);have e:(s.extract R.size s.size).size=s.size-R.size:=an _ _ _ (zf _);rw[cK,(Cv D M s.size).2 (s.extract R.size s.size) deep (ahead+R.items) (2*s.size) (2*(s.extract R.size s.size).size+1) (by omega) (by omega) (by omega)]
mutual
def It.lay :It->Ty->List UInt8
 | .mk tx _ s,t=>if t.kind=1 then je (la tx.data.toList) t.size.toNat else if t.kind=2 then tx.data.toList else if t.kind=3 then dq tx.size++tx.data.toList
  else if t.kind=4 then dq s.length++cm s t 0 else cm s t 0
def cm :List It->Ty->Nat->List UInt8
 | [],_,_=> []
 |x::xs,t,i=>x.lay (t.at i)++cm xs t (i+1)
end
theorem sn (a b:List It)(t:Ty)(i:Nat):cm (a++b) t i=cm a t i++cm b t (i+a.length):=by
 induction a generalizing i with
 |nil=>simp[cm]
 |cons x xs ih=>simp only[ya,cm,ih,zD,zI];rw[show i+1+xs.length=i+(xs.length+1)from by omega]
theorem Bs {s:List It}{k:Nat}{t:Ty}(h:k<s.length):cm (s.take (k+1)) t 0=cm (s.take k) t 0++s[k].lay (t.at k):=by
 rw[gw s k h,sn];simp[cm,yK (Ys h)]
mutual
def Ty.full :Ty->Bool
 | .mk _ _ l t=>decide (t=0)&&bX l
def bX :List Ty->Bool
 | []=>true
 |x::xs=>x.full&&bX xs
end
def Ty.flat (t:Ty):Bool:=t.may&&bX t.sub
structure RN where
 e:Int
 x:It
 n:Nat
 q:List UInt8
structure kL where
 e:Int
 xs:List It
 n:Nat
 q:List UInt8
def RN.bad (e:Int)(n:Nat)(q:List UInt8):RN:=⟨e,iU,n,q⟩
def kL.cons (x:It)(r:kL):kL:=⟨r.e,x::r.xs,r.n,r.q⟩
def kL.list (r:kL):RN:=⟨r.e,.mk ⟨#[]⟩ true r.xs,r.n,r.q⟩
def sY (f:Nat->List UInt8->RN):Nat->Nat->List UInt8->kL
 |0,n,r=>⟨0,[],n,r⟩
 |c+1,n,r=>if(f n r).e≠0 then⟨(f n r).e,[(f n r).x],(f n r).n,(f n r).q⟩else(sY f c (f n r).n (f n r).q).cons (f n r).x
mutual
def Ty.rd (M:Int):Ty->Nat->List UInt8->RN
 | .mk k z l ta,n,r=>
  if M<=n then .bad 4 n r
  else if k=1 then(if r.length<z.toNat then .bad 2 (n+1) r else⟨0,.mk ⟨(cA (cV (r.take z.toNat))).toArray⟩ false [],n+1,r.drop z.toNat⟩)
  else if k=2 then(if r.length<z.toNat then .bad 2 (n+1) r else⟨0,.mk ⟨(r.take z.toNat).toArray⟩ false [],n+1,r.drop z.toNat⟩)
  else if k=3 then
   (if(au r).2.2≠0 then .bad (au r).2.2 (n+1) r else if z<(au r).1 then .bad 5 (n+1) r
   else if(r.drop (au r).2.1).length<(au r).1 then .bad 2 (n+1) (r.drop (au r).2.1)
   else⟨0,.mk ⟨((r.drop (au r).2.1).take (au r).1).toArray⟩ false [],n+1,(r.drop (au r).2.1).drop (au r).1⟩)
  else if k=4 then
   (if(au r).2.2≠0 then .bad (au r).2.2 (n+1) r else if z<(au r).1 then .bad 5 (n+1) r
   else(rdF M l (au r).1 (n+1) (r.drop (au r).2.1)).list)
  else(nz M l ((l.length:Int)-ta).toNat (n+1) r).list
def rdF (M:Int):List Ty->Nat->Nat->List UInt8->kL
 | [],_,n,r=>⟨0,[],n,r⟩
 |x::_,c,n,r=>sY (fun n r=>x.rd M n r) c n r
def nz (M:Int):List Ty->Nat->Nat->List UInt8->kL
 | [],_,n,r=>⟨0,[],n,r⟩
 |x::xs,m,n,r=>if m=0/\r= []then⟨0,[],n,r⟩
  else if(x.rd M n r).e≠0 then⟨(x.rd M n r).e,[(x.rd M n r).x],(x.rd M n r).n,(x.rd M n r).q⟩
  else(nz M xs (m-1) (x.rd M n r).n (x.rd M n r).q).cons (x.rd M n r).x
end
theorem VN (l:List UInt8)(h:fY l=false):cA (la l)=l:=by
 cases l with
 |nil=>simp[la,cV,da]
 |cons b t=>
  apply EA;have:(b==0)=false:=h;intro e;have c:b=0:=by simpa using e
  rw[c]at this;simp at this
theorem uI {s:List It}(h:cW s=true):∀x∈s,x.right=true:=by
 induction s with
 |nil=>simp
 |cons y ys ih=>
  simp only[cW,zF]at h;intro x hx;rcases xA.1 hx with rfl|hx
  ·exact h.1
  exact ih h.2 x hx
theorem lp {k z:Int}{l:List Ty}{b:Int}(h:(Ty.mk k z l b).full=true):b=0/\bX l=true:=by
 simpa only[Ty.full,zF,yj]using h
def Ox (t:Ty)(x:It)(q:List UInt8):Prop:=t.kind=5->(x.sub.length<t.sub.length->q= [])/\∀j (hj:j<x.sub.length) (l8:j<t.sub.length),((t.sub.length:Int)-t.tail).toNat<=j->(x.sub[j]).lay (t.sub[j])≠ []
theorem mF {t:Ty}{x:It}(h:t.full=true)(hi:x.cX t=true)(q:List UInt8):Ox t x q:=by
 intro d;obtain⟨k,z,l,m⟩:=t;obtain⟨o,b,s⟩:=x;obtain⟨rfl,_⟩:=lp h;simp only[Ty.Jw]at d;subst d;simp[It.cX,nN]at hi;obtain⟨⟨⟨_,n⟩,p⟩,_⟩:=hi;refine⟨fun c=> ?_,fun j i e c=> ?_⟩
 ·simp only[It.gu,Ty.gu]at c;omega
 simp only[It.gu,Ty.gu,Ty.Cn]at i e c;omega
theorem JK {M:Int}{a t:Ty}{f:Nat->List UInt8->RN}:∀(s:List It) (i n:Nat) (q:List UInt8),(∀j,t.at (i+j)=a)->(∀x∈s,∀(n:Nat) (q:List UInt8),(n:Int)+x.count<=M->f n (x.lay a++q)=⟨0,x,n+x.count,q⟩)->(n:Int)+aG s<=M->
 sY f s.length n (cm s t i++q)=⟨0,s,n+aG s,q⟩
 | [],i,n,q,_,_,_=>by simp[sY,cm,aG]
 |x::xs,i,n,q,ha,hf,hM=>by
  simp only[aG]at hM;have b:=ha 0;rw[xj]at b;have hx:=hf x (by simp) n (cm xs t (i+1)++q) (by omega);rw[zD,cm,b,zI,sY,hx];simp only[ne_eq,xf,Zq];rw[JK xs (i+1) (n+x.count) q (fun j=>by have:=ha (j+1);rwa [show i+(j+1)=i+1+j from by omega]at this) (fun y c=>hf y (by simp[c])) (by omega)];simp[kL.cons,aG,yw]
theorem JL {M:Int}{t:Ty}:∀(b:List Ty) (s:List It) (m i n:Nat) (q:List UInt8),(∀j (h:j<b.length),t.at (i+j)=b[j])->m<=s.length->s.length<=b.length->(s.length<b.length->q= [])->
 (∀j (c:j<s.length) (d:j<b.length),m<=j->(s[j]).lay (b[j])≠ [])->
 (∀j (c:j<s.length) (d:j<b.length),∀(n:Nat) (q:List UInt8),(n:Int)+(s[j]).count<=M->(b[j]).rd M n ((s[j]).lay (b[j])++q)=⟨0,s[j],n+(s[j]).count,q⟩)->(n:Int)+aG s<=M->
 nz M b m n (cm s t i++q)=⟨0,s,n+aG s,q⟩
 | [],s,m,i,n,q,_,_,hs,_,_,_,_=>by
  obtain rfl:s= []:=zw (by simpa using hs);simp[nz,cm,aG]
 |a::b,[],m,i,n,q,_,hm,_,hq,_,_,_=>by
  have k:m=0:=by simpa using hm
  have o:=hq (by simp);subst k o;simp[nz,cm,aG]
 |a::b,x::xs,m,i,n,q,ha,hm,hs,hq,cd,hf,hM=>by
  simp only[aG]at hM;have e:=ha 0 (by simp);rw[xj]at e;have hx:=hf 0 (by simp) (by simp) n (cm xs t (i+1)++q) (by simp only[yY];omega);simp only[yY]at hx e;rw[cm,e,zI,nz,hx];rw[zj (by
   rintro⟨k,l⟩;have:=cd 0 (by simp) (by simp) (by omega);simp only[yY]at this;exact this (List.append_eq_nil_iff.1 l).1)]
  simp only[ne_eq,xf,Zq];rw[JL b xs (m-1) (i+1) (n+x.count) q (fun j c=>by have:=ha (j+1) (by simpa using c);simpa[show i+(j+1)=i+1+j from by omega]using this) (by simp at hm;omega) (by simpa using hs) (fun h=>hq (by simpa using h))
   (fun j c d h=>by have:=cd (j+1) (by simpa using c) (by simpa using d) (by omega);simpa using this) (fun j c d=>by have:=hf (j+1) (by simpa using c) (by simpa using d);simpa using this) (by omega)]
  simp[kL.cons,aG,yw]
theorem JM {z:Int}{l:List Ty}{d:Int}{c:ByteArray}{b:Bool}{m:Nat}(h:nN (.mk 1 z l d) c b m=true):b=false/\(c.size:Int)<=z/\fY c.data.toList=false:=by
 simp[nN]at h;exact⟨h.1.1,yo h.1.2,h.2⟩
theorem Cw {z:Int}{l:List Ty}{d:Int}{c:ByteArray}{b:Bool}{m:Nat}(h:nN (.mk 2 z l d) c b m=true):b=false/\(c.size:Int)=z:=by
 simp[nN]at h;exact⟨h.1,yo h.2⟩
theorem qU {z:Int}{l:List Ty}{d:Int}{c:ByteArray}{b:Bool}{m:Nat}(h:nN (.mk 3 z l d) c b m=true):b=false/\(c.size:Int)<=z:=by
 simp[nN]at h;exact⟨h.1,yo h.2⟩
theorem ED {z:Int}{l:List Ty}{d:Int}{c:ByteArray}{b:Bool}{m:Nat}(h:nN (.mk 4 z l d) c b m=true):b=true/\(m:Int)<=z:=by
 simp[nN]at h;exact⟨h.1,yo h.2⟩
theorem pH {z:Int}{l:List Ty}{c:Int}{d:ByteArray}{b:Bool}{m:Nat}(h:nN (.mk 5 z l c) d b m=true):b=true/\m<=l.length/\(l.length:Int)-c<=m:=by
 simp[nN]at h;exact⟨h.1.1,yo h.1.2,yo h.2⟩
theorem tB (c:ByteArray)(b:Bool)(s:List It)(z:Int)(l:List Ty)(d:Int):(It.mk c b s).lay (.mk 1 z l d)=je (la c.data.toList) z.toNat:=rfl
theorem tC (c:ByteArray)(b:Bool)(s:List It)(z:Int)(l:List Ty)(d:Int):(It.mk c b s).lay (.mk 2 z l d)=c.data.toList:=rfl
theorem nB (c:ByteArray)(b:Bool)(s:List It)(z:Int)(l:List Ty)(d:Int):(It.mk c b s).lay (.mk 3 z l d)=dq c.size++c.data.toList:=rfl
theorem pI (d:ByteArray)(b:Bool)(s:List It)(z:Int)(l:List Ty)(c:Int):(It.mk d b s).lay (.mk 4 z l c)=dq s.length++cm s (.mk 4 z l c) 0:=rfl
theorem mG (d:ByteArray)(b:Bool)(s:List It)(z:Int)(l:List Ty)(c:Int):(It.mk d b s).lay (.mk 5 z l c)=cm s (.mk 5 z l c) 0:=rfl
theorem JN {M:Int}{n:Nat}(h:M<=n)(t:Ty)(r:List UInt8):t.rd M n r= .bad 4 n r:=by obtain⟨k,z,l,b⟩:=t;rw[Ty.rd,zl h]
theorem Hb {M:Int}{n:Nat}(h:¬M<=n)(z:Int)(l:List Ty)(b:Int)(r:List UInt8):(Ty.mk 1 z l b).rd M n r=if r.length<z.toNat then .bad 2 (n+1) r else⟨0,.mk ⟨(cA (cV (r.take z.toNat))).toArray⟩ false [],n+1,r.drop z.toNat⟩:=by rw[Ty.rd,zj h];rfl
theorem Hd {M:Int}{n:Nat}(h:¬M<=n)(z:Int)(l:List Ty)(b:Int)(r:List UInt8):(Ty.mk 2 z l b).rd M n r=if r.length<z.toNat then .bad 2 (n+1) r else⟨0,.mk ⟨(r.take z.toNat).toArray⟩ false [],n+1,r.drop z.toNat⟩:=by rw[Ty.rd,zj h];rfl
theorem uJ {M:Int}{n:Nat}(h:¬M<=n)(z:Int)(l:List Ty)(b:Int)(r:List UInt8):(Ty.mk 3 z l b).rd M n r=if(au r).2.2≠0 then .bad (au r).2.2 (n+1) r else if z<(au r).1 then .bad 5 (n+1) r
 else if(r.drop (au r).2.1).length<(au r).1 then .bad 2 (n+1) (r.drop (au r).2.1)
 else⟨0,.mk ⟨((r.drop (au r).2.1).take (au r).1).toArray⟩ false [],n+1,(r.drop (au r).2.1).drop (au r).1⟩:=by rw[Ty.rd,zj h];rfl
theorem Cx {M:Int}{n:Nat}(h:¬M<=n)(z:Int)(l:List Ty)(b:Int)(r:List UInt8):(Ty.mk 4 z l b).rd M n r=if(au r).2.2≠0 then .bad (au r).2.2 (n+1) r else if z<(au r).1 then .bad 5 (n+1) r
 else(rdF M l (au r).1 (n+1) (r.drop (au r).2.1)).list:=by rw[Ty.rd,zj h];rfl
theorem tD {M:Int}{n:Nat}(h:¬M<=n)(z:Int)(l:List Ty)(b:Int)(r:List UInt8):(Ty.mk 5 z l b).rd M n r=(nz M l ((l.length:Int)-b).toNat (n+1) r).list:=by rw[Ty.rd,zj h];rfl
theorem kM :∀(s:List It) (t:Ty) (i:Nat),cO s t i=true->∀j (h:j<s.length),(s[j]).cX (t.at (i+j))=true
 | [],_,_,_,j,h=>by simp at h
 |x::xs,t,i,hi,0,h=>by simp only[cO,zF]at hi;simpa using hi.1
 |x::xs,t,i,hi,j+1,h=>by
  simp only[cO,zF]at hi;have:=kM xs t (i+1) hi.2 j (by simpa using h);rw[show i+(j+1)=i+1+j from by omega];simpa using this
theorem EF {s:List Ty}(h:bX s=true):∀k (b:k<s.length),(s[k]).full=true:=by
 induction s with
 |nil=>intro k b;simp at b
 |cons x xs ih=>
  simp only[bX,zF]at h;intro k b;cases k with
  |zero=>exact h.1
  |succ k=>exact ih h.2 k (by simpa using b)
theorem Oy (M:Int)(hM:M<=1024)(x:It):∀(t:Ty) (n:Nat) (q:List UInt8),t.right=true->bX t.sub=true->Ox t x q->x.cX t=true->x.right=true->(n:Int)+x.count<=M->
 t.rd M n (x.lay t++q)=⟨0,x,n+x.count,q⟩:=by
 induction x using It.ind with
 |h tx b s ih=>
  intro t n q hr B As hi hx K;obtain⟨k,z,l,d⟩:=t;obtain⟨bC,X⟩:=jr hr;obtain⟨m,ad⟩:=mz hx;have S:=uI ad;have p:¬M<=(n:Int):=by simp only[It.count]at K;omega
  simp only[It.cX,zF]at hi;obtain⟨c,ch⟩:=hi;have E:=kM s _ 0 ch;simp only[zT]at E;simp only[Ty.gu]at B;rcases lk bC with⟨rfl,hs,y,G⟩|⟨rfl,L,F,y,G⟩|⟨rfl,L,F,y,G⟩|⟨rfl,L,F,y,G⟩|⟨rfl,L,F,h5,h6⟩
  ·replace c:=JM c;obtain⟨rfl,hz,Z⟩:=c;have o:s= []:=by simpa[formed]using m
   subst o;have Y:=tT tx.data.toList;rw[aa]at Y;have C:tx.size<=z.toNat:=by omega
   have F4:la tx.data.toList<2^(8*z.toNat):=yg Y (yy (by omega) (by omega));rw[tB,Hb p];rw[zj (by rw[zp,bc];omega),ZP (bc _ _),ZR (bc _ _),Of _ _ F4,VN _ Z,ig];simp[It.count,aG]
  ·replace c:=Cw c;obtain⟨rfl,hz⟩:=c;have o:s= []:=by simpa[formed]using m
   subst o;have C:tx.data.toList.length=z.toNat:=by rw[aa];omega
   rw[tC,Hd p];rw[zj (by rw[zp];omega),ZP C,ZR C,ig];simp[It.count,aG]
  ·replace c:=qU c;obtain⟨rfl,hz⟩:=c;have o:s= []:=by simpa[formed]using m
   subst o;have O:=uH tx.size (tx.data.toList++q) (by omega);have D:(dq tx.size++(tx.data.toList++q)).drop (dq tx.size).length=tx.data.toList++q:=ZR rfl;rw[nB,zI,uJ p];rw[O];simp only[D];rw[zj (by simp),zj (by omega),zj (by rw[zp,aa];omega),ZP (aa tx),ZR (aa tx),ig];simp[It.count,aG]
  ·replace c:=ED c;obtain⟨rfl,hz⟩:=c;have I:tx=⟨#[]⟩:=by
    have:tx.size=0:=by simpa[formed]using m
    exact aL (by simp[zw ((aa tx).trans this)])
   subst I;obtain⟨a,rfl⟩:=Yt.1 y;have r:∀j,(Ty.mk 4 z [a] d).at j=a:=fun j=>by unfold Ty.at;simp
   have A:a.right=true:=by simpa[bL]using X
   have u:a.full=true:=by simpa[bX]using B
   have O:=uH s.length (cm s (.mk 4 z [a] d) 0++q) (by omega);have D:(dq s.length++(cm s (.mk 4 z [a] d) 0++q)).drop (dq s.length).length=cm s (.mk 4 z [a] d) 0++q:=ZR rfl;simp only[It.count]at K;have N:=JK (M:=M) (a:=a) (t:= .mk 4 z [a] d) (f:=fun n ab=>a.rd M n ab) s 0 (n+1) q (fun j=>r _) (fun x i n q J=>by
    obtain⟨j,w,rfl⟩:=yZ i;have e:=E j w;rw[r]at e;obtain⟨ak,az,al,at_⟩:=a;exact ih _ i _ n q A (lp u).2 (mF u e q) e (S _ i) J) (by omega)
   rw[pI,zI,Cx p];rw[O];simp only[D,rdF];rw[zj (by simp),zj (by omega),N];simp[kL.list,It.count,yw]
  replace c:=pH c;obtain⟨rfl,cg,cG⟩:=c;have I:tx=⟨#[]⟩:=by
   have:tx.size=0:=by simpa[formed]using m
   exact aL (by simp[zw ((aa tx).trans this)])
  subst I;have r:∀j (h:j<l.length),(Ty.mk 5 z l d).at (0+j)=l[j]:=fun j h=>by unfold Ty.at;simp[h]
  obtain⟨U,R⟩:=As rfl;simp only[It.gu,Ty.gu,Ty.Cn]at U R;simp only[It.count]at K;have N:=JL (M:=M) (t:= .mk 5 z l d) l s ((l.length:Int)-d).toNat 0 (n+1) q r (by omega) cg U R (fun j w H n q J=>by
   have i:=zM w;have e:=E j w;have W:=r j H;rw[zT]at W;rw[W]at e;have u:=EF B j H;have A:=dI X j H;generalize l[j]=a at*;obtain⟨ak,az,al,at_⟩:=a;exact ih _ i _ n q A (lp u).2 (mF u e q) e (S _ i) J) (by omega)
  rw[mG,tD p];rw[N];simp[kL.list,It.count,yw]
structure SC (M:Int)(t:Ty)(n:Nat)(r:List UInt8)(R:RN):Prop where
 cX:R.x.cX t=true
 right:R.x.right=true
 num:R.n=n+R.x.count
 many:(R.n:Int)<=M
 lay:r=R.x.lay t++R.q
 deep:R.x.deep<=t.deep
structure Up (M:Int)(t:Ty)(i n:Nat)(r:List UInt8)(R:kL):Prop where
 cX:cO R.xs t i=true
 right:cW R.xs=true
 num:R.n=n+aG R.xs
 many:(R.n:Int)<=M
 lay:r=cm R.xs t i++R.q
theorem EG {M:Int}{a t:Ty}{f:Nat->List UInt8->RN}(l:∀n r,(f n r).e=0->SC M a n r (f n r)):∀(c i n:Nat) (r:List UInt8),(∀j,t.at (i+j)=a)->(n:Int)<=M->(sY f c n r).e=0->
 Up M t i n r (sY f c n r)/\(sY f c n r).xs.length=c/\cC (sY f c n r).xs<=a.deep
 |0,i,n,r,_,hM,_=>⟨⟨rfl,rfl,by simp[sY,aG],hM,by simp[sY,cm]⟩,rfl,by simp[sY,cC]⟩
 |c+1,i,n,r,ha,hM,h=>by
  rw[sY]at h⊢;by_cases e:(f n r).e=0
  ·rw[zj (by simp[e])]at h⊢;have b:=l n r e;obtain⟨d,m,p⟩:=EG l c (i+1) (f n r).n (f n r).q (fun j=>by have:=ha (j+1);rwa [show i+(j+1)=i+1+j from by omega]at this) b.many h;have k:=ha 0;rw[xj]at k;refine⟨⟨?_, ?_, ?_,d.many, ?_⟩,by simp[kL.cons,m], ?_⟩
   ·simp only[kL.cons,cO,k,b.cX,d.cX,Bool.and_self]
   ·simp only[kL.cons,cW,b.right,d.right,Bool.and_self]
   ·have o:=d.num;have q:=b.num;simp only[kL.cons,aG];omega
   ·simp only[kL.cons,cm,k,zI];rw[<-d.lay];exact b.lay
   simp only[kL.cons,cC];have:=b.deep;omega
  rw[zl (by simpa using e)]at h;exact absurd h e
theorem EH {M:Int}{t:Ty}:∀(c:List Ty) (m i n:Nat) (r:List UInt8),(∀j (h:j<c.length),t.at (i+j)=c[j])->(∀a∈c,∀n r,(a.rd M n r).e=0->SC M a n r (a.rd M n r))->(n:Int)<=M->m<=c.length->(nz M c m n r).e=0->
 Up M t i n r (nz M c m n r)/\m<=(nz M c m n r).xs.length/\(nz M c m n r).xs.length<=c.length/\cC (nz M c m n r).xs<=dD c
 | [],m,i,n,r,_,_,hM,hm,_=>⟨⟨rfl,rfl,by simp[nz,aG],hM,by simp[nz,cm]⟩,by simpa[nz]using hm,by simp[nz],by simp[nz,cC]⟩
 |a::c,m,i,n,r,ha,hf,hM,hm,h=>by
  rw[nz]at h⊢;by_cases hz:m=0/\r= []
  ·rw[zl hz];obtain⟨rfl,rfl⟩:=hz;exact⟨⟨rfl,rfl,by simp[aG],hM,by simp[cm]⟩,by simp,by simp,by simp[cC]⟩
  rw[zj hz]at h⊢;by_cases k:(a.rd M n r).e=0
  ·rw[zj (by simp[k])]at h⊢;have d:=hf a (by simp) n r k;obtain⟨e,x,u,s⟩:=EH c (m-1) (i+1) (a.rd M n r).n (a.rd M n r).q (fun j p=>by have:=ha (j+1) (by simpa using p);simpa[show i+(j+1)=i+1+j from by omega]using this) (fun b o=>hf b (by simp[o])) d.many (by simp at hm;omega) h;have l:=ha 0 (by simp);simp only[xj,yY]at l;refine⟨⟨?_, ?_, ?_,e.many, ?_⟩,by simp only[kL.cons,zD];omega,by simp only[kL.cons,zD];omega, ?_⟩
   ·simp only[kL.cons,cO,l,d.cX,e.cX,Bool.and_self]
   ·simp only[kL.cons,cW,d.right,e.right,Bool.and_self]
   ·have q:=e.num;have w:=d.num;simp only[kL.cons,aG];omega
   ·simp only[kL.cons,cm,l,zI];rw[<-e.lay];exact d.lay
   simp only[kL.cons,cC,dD];have:=d.deep;omega
  rw[zl (by simpa using k)]at h;exact absurd h k
theorem SD {z:Int}{l:List Ty}{c:Int}{b:ByteArray}{m:Nat}(d:(b.size:Int)<=z)(e:fY b.data.toList=false):nN (.mk 1 z l c) b false m=true:=by
 show(!false&&decide ((b.size:Int)<=z)&& !fY b.data.toList)=true
 rw[e,zH d];rfl
theorem SE {z:Int}{l:List Ty}{d:Int}{b:ByteArray}{m:Nat}(c:(b.size:Int)=z):nN (.mk 2 z l d) b false m=true:=by
 show(!false&&decide ((b.size:Int)=z))=true
 rw[zH c];rfl
theorem LB {z:Int}{l:List Ty}{d:Int}{b:ByteArray}{m:Nat}(c:(b.size:Int)<=z):nN (.mk 3 z l d) b false m=true:=by
 show(!false&&decide ((b.size:Int)<=z))=true
 rw[zH c];rfl
theorem Oz {z:Int}{l:List Ty}{d:Int}{b:ByteArray}{m:Nat}(c:(m:Int)<=z):nN (.mk 4 z l d) b true m=true:=by
 show(true&&decide ((m:Int)<=z))=true
 rw[zH c];rfl
theorem OA {z:Int}{l:List Ty}{b:Int}{d:ByteArray}{m:Nat}(c:m<=l.length)(e:(l.length:Int)-b<=m):nN (.mk 5 z l b) d true m=true:=by
 show(true&&decide (m<=l.length)&&decide ((l.length:Int)-b<=m))=true
 rw[zH c,zH e];rfl
theorem He (n:Nat):fY (cA n)=false:=by
 by_cases h:n=0
 ·subst h;rw[da];rfl
 cases hl:cA n with
 |nil=>rfl
 |cons b t=>
  have h1:=Br n h;rw[hl]at h1;show(b==0)=false
  exact zr.2 (by simpa using h1)
theorem LC (M:Int)(L:M<=1024)(t:Ty):∀(n:Nat) (r:List UInt8),t.right=true->(t.rd M n r).e=0->SC M t n r (t.rd M n r):=by
 induction t using Ty.ind with
 |h k z l ta ih=>
  intro n r E h;obtain⟨B,x⟩:=jr E;by_cases d:M<=(n:Int)
  ·rw[JN d]at h;cases h
  rcases lk B with⟨rfl,J,m,p⟩|⟨rfl,s,o,m,p⟩|⟨rfl,s,o,m,p⟩|⟨rfl,s,o,m,p⟩|⟨rfl,s,o,K,I⟩
  ·rw[Hb d]at h⊢;by_cases c:r.length<z.toNat
   ·rw[zl c]at h;cases h
   rw[zj c];have y:=jm (r.take z.toNat);have i:(r.take z.toNat).length=z.toNat:=by rw[yc];omega
   rw[i]at y;have N:=fW z.toNat _ y;refine⟨?_,rfl,by simp[It.count,aG],by simp only;omega, ?_, ?_⟩
   ·simp only[It.cX,cO,Zt];exact SD (by rw[bH];omega) (by simpa using He _)
   ·rw[tB];simp only;have e:=Og (r.take z.toNat);rw[i]at e;rw[JH,e,zN]
   simp[It.deep,cC,Ty.deep]
  ·rw[Hd d]at h⊢;by_cases c:r.length<z.toNat
   ·rw[zl c]at h;cases h
   rw[zj c];have i:(r.take z.toNat).length=z.toNat:=by rw[yc];omega
   refine⟨?_,rfl,by simp[It.count,aG],by simp only;omega, ?_, ?_⟩
   ·simp only[It.cX,cO,Zt];exact SE (by rw[bH];omega)
   ·rw[tC];simp only;rw[zN]
   simp[It.deep,cC,Ty.deep]
  ·rw[uJ d]at h⊢;by_cases b:(au r).2.2≠0
   ·rw[zl b]at h;exact absurd h b
   rw[zj b]at h⊢;by_cases hz:z<((au r).1:Int)
   ·rw[zl hz]at h;cases h
   rw[zj hz]at h⊢;by_cases c:(r.drop (au r).2.1).length<(au r).1
   ·rw[zl c]at h;cases h
   rw[zj c];obtain⟨G,D,q,H⟩:=ir r (au r).1 (au r).2.1 (by rw[<-zJ.1 b]);generalize au r=C at*;have i:((r.drop C.2.1).take C.1).length=C.1:=by rw[yc];omega
   refine⟨?_,rfl,by simp[It.count,aG],by simp only;omega, ?_, ?_⟩
   ·simp only[It.cX,cO,Zt];exact LB (by rw[bH];omega)
   ·rw[nB];simp only;rw[show(⟨((r.drop C.2.1).take C.1).toArray⟩:ByteArray).size=C.1 from by rw[bH,i],<-q,zI,zN,zN]
   simp[It.deep,cC,Ty.deep]
  ·rw[Cx d]at h⊢;by_cases b:(au r).2.2≠0
   ·rw[zl b]at h;exact absurd h b
   rw[zj b]at h⊢;by_cases hz:z<((au r).1:Int)
   ·rw[zl hz]at h;cases h
   rw[zj hz]at h⊢;obtain⟨G,D,q,H⟩:=ir r (au r).1 (au r).2.1 (by rw[<-zJ.1 b]);generalize au r=C at*;obtain⟨a,rfl⟩:=Yt.1 m;have u:∀j,(Ty.mk 4 z [a] ta).at j=a:=fun j=>by unfold Ty.at;simp
   have A:a.right=true:=by simpa[bL]using x
   simp only[rdF,kL.list]at h⊢;obtain⟨g1,g2,g3⟩:=EG (M:=M) (a:=a) (t:= .mk 4 z [a] ta) (fun n r h=>ih a (by simp) n r A h) C.1 0 (n+1) (r.drop C.2.1) (fun j=>u _) (by omega) h;generalize sY (fun n r=>a.rd M n r) C.1 (n+1) (r.drop C.2.1)=R at*;refine⟨?_, ?_, ?_,g1.many, ?_, ?_⟩
   ·simp only[It.cX,g1.cX,Zt];exact Oz (by rw[g2];omega)
   ·simp[It.right,g1.right,formed,ByteArray.size]
   ·simp only[It.count,g1.num];omega
   ·rw[pI,zI,<-g1.lay,g2,<-q,zN]
   simp only[It.deep,Ty.deep,dD];omega
  rw[tD d]at h⊢;have u:∀j (h:j<l.length),(Ty.mk 5 z l ta).at (0+j)=l[j]:=fun j h=>by unfold Ty.at;simp[h]
  simp only[kL.list]at h⊢;obtain⟨g1,g2,g3,g4⟩:=EH (M:=M) (t:= .mk 5 z l ta) l ((l.length:Int)-ta).toNat 0 (n+1) r u (fun a w n r h=>by
   obtain⟨j,F,rfl⟩:=yZ w;exact ih _ w n r (dI x j F) h) (by omega) (by omega) h
  generalize nz M l ((l.length:Int)-ta).toNat (n+1) r=R at*;refine⟨?_, ?_, ?_,g1.many, ?_, ?_⟩
  ·simp only[It.cX,g1.cX,Zt];exact OA g3 (by omega)
  ·simp[It.right,g1.right,formed,ByteArray.size]
  ·simp only[It.count,g1.num];omega
  ·rw[mG];exact g1.lay
  simp only[It.deep,Ty.deep];omega
def iF (t:Ty)(x:It)(M:Int):Int:=if t.flat=false then 1 else if eB t x≠0 then eB t x else if M<x.count then 4 else 0
def mH (t:Ty)(x:It)(M:Int):ByteArray×Int:=if iF t x M=0 then(⟨(x.lay t).toArray⟩,0)else(⟨#[]⟩,iF t x M)
def nO (t:Ty)(s:ByteArray)(M:Int):RN:=t.rd (min M 1024) 0 s.data.toList
def cY (t:Ty)(s:ByteArray)(M:Int):Int×It×Nat:=if t.flat=false then(1,iU,0)else if(nO t s M).e≠0 then((nO t s M).e,iU,0)else(0,(nO t s M).x,s.size-(nO t s M).q.length)
def ju (t:Ty)(s:ByteArray)(M:Int):Int×It:=if(cY t s M).1≠0 then((cY t s M).1,iU)else if(cY t s M).2.2<s.size then(3,iU)else(0,(cY t s M).2.1)
theorem jv {t:Ty}(h:t.flat=true):t.may=true/\t.right=true/\t.count<=64/\t.deep<=8/\bX t.sub=true:=by
 simp only[Ty.flat,zF]at h;obtain⟨b,d,c⟩:=Ot h.1;exact⟨h.1,c,b,d,h.2⟩
theorem qV {t:Ty}{x:It}(h:eB t x=0):t.may=true/\x.may=true/\x.cX t=true:=by
 unfold eB at h;cases h1:t.may<;>cases h2:x.may<;>cases h3:x.cX t<;>simp_all
theorem VO {t:Ty}{x:It}(b:t.may=true)(d:x.may=true)(c:x.cX t=true):eB t x=0:=by
 unfold eB;simp[b,d,c]
theorem so {x:It}(h:x.may=true):x.right=true/\x.deep<=16/\x.count<=1024:=by
 simpa only[It.may,zF,yj,and_assoc]using h
theorem OB {x:It}(b:x.right=true)(d:x.deep<=16)(c:x.count<=1024):x.may=true:=by
 simp only[It.may,zF,yj];exact⟨⟨b,d⟩,c⟩
theorem Bt {t:Ty}{x:It}{M:Int}(h:iF t x M=0):t.flat=true/\eB t x=0/\(x.count:Int)<=M:=by
 unfold iF at h;cases h1:t.flat with
 |false=>rw[zl h1]at h;cases h
 |true=>
  rw[zj (by simp[h1])]at h;by_cases b:eB t x≠0
  ·rw[zl b]at h;exact absurd h b
  rw[zj b]at h;by_cases c:M<x.count
  ·rw[zl c]at h;cases h
  exact⟨rfl,zJ.1 b,by omega⟩
theorem EI (t:Ty)(s:ByteArray)(M:Int)(h:(cY t s M).1=0):iF t (cY t s M).2.1 M=0/\(cY t s M).2.2<=s.size/\(cY t s M).2.1.lay t=s.data.toList.take (cY t s M).2.2:=by
 unfold cY at h⊢;cases h1:t.flat with
 |false=>rw[zl h1]at h;cases h
 |true=>
  rw[zj (by simp[h1])]at h⊢;by_cases c:(nO t s M).e≠0
  ·rw[zl c]at h;exact absurd h c
  rw[zj c];obtain⟨e,d,k,m,n⟩:=jv h1;have b:=LC (min M 1024) (by omega) t 0 s.data.toList d (zJ.1 c);change SC (min M 1024) t 0 s.data.toList (nO t s M)at b
  generalize nO t s M=R at*;have i:=xC List.length b.lay;rw[zp,aa]at i;have j:=b.many;have l:=b.num;have hd:=b.deep;refine⟨?_,by simp only;omega, ?_⟩
  ·unfold iF;simp only;rw[zj (by simp[h1]),VO e (OB b.right (by omega) (by omega)) b.cX,zj (by simp),zj (by omega)]
  simp only;rw[b.lay,show s.size-R.q.length=(R.x.lay t).length from by omega,ZP rfl]
theorem Hf (t:Ty)(s:ByteArray)(M:Int)(h:(ju t s M).1=0):iF t (ju t s M).2 M=0/\(ju t s M).2.lay t=s.data.toList:=by
 unfold ju at h⊢;by_cases b:(cY t s M).1≠0
 ·rw[zl b]at h;exact absurd h b
 rw[zj b]at h⊢;by_cases c:(cY t s M).2.2<s.size
 ·rw[zl c]at h;cases h
 rw[zj c];obtain⟨d,a2,a3⟩:=EI t s M (zJ.1 b);refine⟨d, ?_⟩;rw[a3,zC (by rw[aa];omega)]
def l7 (i:Int):Prop:= -9223372036854775808<=i/\i<=9223372036854775807
mutual
def cx (w:World)(B:Nat):Ty->Value->Value->Value->Value->Prop
 | .mk k s l t,c0,c1,c2,c3=>c0= .int .i64 k/\c1= .int .i64 s/\c3= .int .i64 t/\l7 k/\l7 s/\l7 t/\l.length<=9223372036854775807/\∃A cap,c2= .slice A l.length cap/\l.length<=cap/\cap<=9223372036854775807/\eN w B l A 0
def eN (w:World)(B:Nat):List Ty->Option Addr->Nat->Prop
 | [],_,_=>True
 |x::xs,A,i=>(∃b o c0 c1 c2 c3,A=some ⟨b,o,none⟩/\b<B/\w.cell? ⟨b,o+i*4,none⟩=some c0/\w.cell? ⟨b,o+i*4+1,none⟩=some c1/\w.cell? ⟨b,o+i*4+2,none⟩=some c2/\w.cell? ⟨b,o+i*4+3,none⟩=some c3/\cx w B x c0 c1 c2 c3)/\eN w B xs A (i+1)
end
theorem eN.at_ {w:World}{B:Nat}{A:Option Addr}:∀{s:List Ty} {i:Nat},eN w B s A i->∀(j:Nat) (h:j<s.length),∃b o c d e k,A=some ⟨b,o,none⟩/\b<B/\w.cell? ⟨b,o+(i+j)*4,none⟩=some c/\w.cell? ⟨b,o+(i+j)*4+1,none⟩=some d/\w.cell? ⟨b,o+(i+j)*4+2,none⟩=some e/\w.cell? ⟨b,o+(i+j)*4+3,none⟩=some k/\cx w B s[j] c d e k
 | [],_,_,j,h=>by simp at h
 |x::xs,i,hi,0,_=>by simpa[eN]using hi.1
 |x::xs,i,hi,j+1,h=>by
  have:=eN.at_ hi.2 j (by simpa using h);rw[show i+1+j=i+(j+1)from by omega]at this;simpa using this
theorem eN.Eg {w:World}{B:Nat}{A:Option Addr}:∀{s:List Ty} {i:Nat},(∀(j:Nat) (h:j<s.length),∃b o c d e k,A=some ⟨b,o,none⟩/\b<B/\w.cell? ⟨b,o+(i+j)*4,none⟩=some c/\w.cell? ⟨b,o+(i+j)*4+1,none⟩=some d/\w.cell? ⟨b,o+(i+j)*4+2,none⟩=some e/\w.cell? ⟨b,o+(i+j)*4+3,none⟩=some k/\cx w B s[j] c d e k)->eN w B s A i
 | [],_,_=>by simp[eN]
 |x::xs,i,h=>by
  refine⟨h 0 (ZI _),eN.Eg fun j l=> ?_⟩;have:=h (j+1) (by simpa using l);rw[show i+(j+1)=i+1+j from by omega]at this;simpa using this
theorem cx.open_ {w:World}{B:Nat}{x:Ty}{c b d e:Value}(h:cx w B x c b d e):∃A cap,c= .int .i64 x.kind/\b= .int .i64 x.size/\d= .slice A x.sub.length cap/\e= .int .i64 x.tail/\l7 x.kind/\l7 x.size/\l7 x.tail/\x.sub.length<=cap/\cap<=9223372036854775807/\eN w B x.sub A 0:=by
 cases x with
 |mk k s l t=>
  obtain⟨j,p,o,r,q,u,z,A,cap,y,m,i,n⟩:=h;exact⟨A,cap,j,p,y,o,r,q,u,m,i,n⟩
theorem cx.ah {w w':World}{B q:Nat}(R:B<=q)(d:∀p:Addr,p.block<B->w'.cell? p=w.cell? p):∀(x:Ty) {i e m n:Value},cx w B x i e m n->cx w' q x i e m n:=by
 intro x;induction x using Ty.ind with
 |h k s l t ih=>
  intro i e m n h;obtain⟨I,O,J,u,C,D,G,A,cap,H,L,K,y⟩:=h;refine⟨I,O,J,u,C,D,G,A,cap,H,L,K,eN.Eg fun j r=> ?_⟩;obtain⟨b,o,d0,d1,d2,d3,E,c,F,N,z,M,hi⟩:=y.at_ j r;exact⟨b,o,d0,d1,d2,d3,E,by omega,(d _ c).trans F,(d _ c).trans N,(d _ c).trans z,(d _ c).trans M,ih _ (zM r) hi⟩
theorem cx.below {w w':World}{B:Nat}{x:Ty}{b c d e:Value}(h:cx w B x b c d e)(i:Below B w w'):cx w' B x b c d e:=cx.ah (zf _) (fun _ j=>i.cell j) x h
theorem cx.mono {w:World}{B i:Nat}{x:Ty}{b c d e:Value}(h:cx w B x b c d e)(j:B<=i):cx w i x b c d e:=cx.ah j (fun _ _=>rfl) x h
theorem eN.ah {w w':World}{B e:Nat}(n:B<=e)(c:∀p:Addr,p.block<B->w'.cell? p=w.cell? p){s:List Ty}{A:Option Addr}{i:Nat}(h:eN w B s A i):eN w' e s A i:=eN.Eg fun j q=>by
 obtain⟨b,o,d0,d1,d2,d3,k,d,l,m,r,u,hi⟩:=h.at_ j q;exact⟨b,o,d0,d1,d2,d3,k,by omega,(c _ d).trans l,(c _ d).trans m,(c _ d).trans r,(c _ d).trans u,hi.ah n c⟩
theorem eN.below {w w':World}{B i:Nat}{s:List Ty}{A:Option Addr}(h:eN w B s A i)(b:Below B w w'):eN w' B s A i:=h.ah (zf _) (fun _ c=>b.cell c)
theorem aO {w:World}{g:Nat}{t:TypeId}{a b c d:Value}(h:af w g t #[a,b,c,d]):w.cell? ⟨g,0,none⟩=some a/\w.cell? ⟨g,1,none⟩=some b/\w.cell? ⟨g,2,none⟩=some c/\w.cell? ⟨g,3,none⟩=some d/\w.frozen? ⟨g,0,none⟩=false/\w.frozen? ⟨g,1,none⟩=false/\w.frozen? ⟨g,2,none⟩=false/\w.frozen? ⟨g,3,none⟩=false:=
 ⟨h.cell 0,h.cell 1,h.cell 2,h.cell 3,h.frozen 0,h.frozen 1,h.frozen 2,h.frozen 3⟩
theorem LD {w w':World}{t:TypeId}{a b c d:Value}(e:Below (w.heap.size+1) (w.alloc (.cells #[a,b,c,d] t)) w'):w'.cell? ⟨w.heap.size,0,none⟩=some a/\w'.cell? ⟨w.heap.size,1,none⟩=some b/\w'.cell? ⟨w.heap.size,2,none⟩=some c/\w'.cell? ⟨w.heap.size,3,none⟩=some d:=by
 have i:=af.new w t #[a,b,c,d];have h:af w' w.heap.size t #[a,b,c,d]:=(e.block _ (by omega)).trans i;exact⟨h.cell 0,h.cell 1,h.cell 2,h.cell 3⟩
