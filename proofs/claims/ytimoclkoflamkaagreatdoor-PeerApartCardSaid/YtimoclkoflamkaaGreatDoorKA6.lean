/- Values as trees: plain laws. No program in sight. -/
import Derived.Test.YtimoclkoflamkaaGreatDoorKA5
import Derived.Deep.OwnRows
set_option linter.all false
namespace Go.Proofs.YtimoclkoflamkaaGreatDoor
variable {B base n cap N i j o:Nat}{x:It}{w':World}{v e a:Value}{nm s way:ByteArray}{l:List UInt8}{A:Option Addr}{f:Fr}{F:iZ}{t:Ty}{ops:Array Oper}{Q:Exit->Act->World->Prop}
def zv:=@decide_eq_false
def yy:=@List.mem_append
def yL:=@List.mem_singleton
def xh:=@List.mem_of_getElem?
def xK:=@List.getElem_append_left
def xQ:=@MapKept.run_getObj_map
def xW:=@run_underlying
def xZ:=@MapKept.run_checkKey
def Zh:=@List.mem_of_find?_eq_some
def Zj:=@MapKept.run_findKey
def ZG:=@List.any_eq_true
def Z5:=@Nat.zero_lt_succ
def Z8:=@List.any_eq_false
def Yr:=@List.find?_some
theorem Fg (b n:Nat)(h:n<18446744073709551616):(cA b n).length<=9:=by
 rw[ee];have:=gp 8 n (by simpa using h);split<;>omega
theorem Ix (s:List It)(b:∀x∈s,x.total+9*x.count<1099511627776->x.fy.length<=x.total+9*x.count):lG s+9*aC s<1099511627776->(fo s).length<=lG s+9*aC s:=by
 induction s with
 |nil=>simp[fo]
 |cons x xs Gw=>
  intro h;simp only[lG,aC]at h;have e:=b x (by simp) (by omega);have d:=Gw (fun y c=>b y (by simp[c])) (by omega);simp only[fo,lG,aC,zk];omega
theorem Mi (x:It):x.total+9*x.count<1099511627776->x.fy.length<=x.total+9*x.count:=by
 induction x using It.ind with
 |h t l s ih=>
  intro h;simp only[It.total,It.count]at h;have c:=Ix s ih (by omega);rw[It.fy];simp only[It.total,It.count];by_cases b:l=true
  ·rw[zj b,zk];have:=Fg 192 (fo s).length (by omega);omega
  rw[zi b];split
  ·have:t.data.toList.length=t.size:=aa t;omega
  rw[zk];have:=Fg 128 t.size (by omega);have:t.data.toList.length=t.size:=aa t;omega
theorem Mj (x:It)(h:x.pU=false):x.fy.length<=20000:=by
 have c:=sB x h;have d:=Ic x;simp only[It.pU,ZL,yV]at h;have b:=Mi x (by omega);omega
def lJ (D M:Int)(s:ByteArray):Int:=if(bq D M s 1 0).e≠0 then(bq D M s 1 0).e else if(bq D M s 1 0).size<s.size then 3 else 0
def iT (D M:Int)(s:ByteArray):It:=if lJ D M s≠0 then kx else(bq D M s 1 0).x
theorem BN (x:It):x.may=true↔x.right=true/\x.deep<=16/\x.count<=1024:=by
 simp only[It.may,zy,zY,and_assoc]
theorem o9 (x:It)(D M:Int):fM x D M=0↔x.may=true/\(x.deep:Int)<=D/\(x.count:Int)<=M:=by
 unfold fM;cases x.may<;>simp
 split
 ·simp;omega
 split
 ·simp;omega
 simp;omega
theorem Pj (D M:Int)(x:It)(h:fM x D M=0)(s:ByteArray)(c:s.data.toList=x.fy)(hz:s.size<18446744073709551616):lJ D M s=0/\iT D M s=x:=by
 rw[o9,BN]at h;obtain⟨⟨e,i,l⟩,m,k⟩:=h;have b:=Tl D M x s [] 1 0 (by simpa using c) hz e (by omega) (by omega) (by omega) (by omega);have j:s.size=x.fy.length:=by rw[<-c,aa]
 have d:lJ D M s=0:=by
  unfold lJ;rw[b];simp;omega
 refine⟨d, ?_⟩;unfold iT;rw[zi (by simp[d]),b]
theorem Pk (D M:Int)(s:ByteArray)(h:lJ D M s=0):fM (iT D M s) D M=0/\(iT D M s).fy=s.data.toList:=by
 have hx:iT D M s=(bq D M s 1 0).x:=by unfold iT;rw[zi (by simp[h])]
 rw[hx];unfold lJ at h;have b:=(Tk D M s.size).1 s 1 0 (zd _);generalize bq D M s 1 0=R at*;by_cases c:R.e≠0
 ·rw[zj c]at h;exact absurd h c
 rw[zi c]at h;have b:=b (zE.1 c);have d:¬R.size<s.size:=by intro d;rw[zj d]at h;simp at h
 have j:s.data.toList.length=s.size:=aa s;refine⟨?_, ?_⟩
 ·rw[o9,BN];have e:=b.deepD;have i:=b.deep16;have a3:=b.manyM;have a4:=b.many;exact⟨⟨b.right,by omega,by omega⟩,by omega,by omega⟩
 rw[b.fy,zx (by omega)]
theorem rK (ty:Ty)(x:It):dZ ty x=0↔ty.may=true/\x.may=true/\x.dy ty=true:=by
 unfold dZ;cases ty.may<;>cases x.may<;>cases x.dy ty<;>simp
def gq (ty:Ty)(x:It)(D M:Int):Int:=if dZ ty x≠0 then dZ ty x else fM x D M
def kb (ty:Ty)(s:ByteArray)(D M:Int):Int:=if ty.may=false then 1 else if lJ D M s≠0 then lJ D M s else dZ ty (iT D M s)
def qj (ty:Ty)(s:ByteArray)(D M:Int):It:=if kb ty s D M≠0 then kx else iT D M s
theorem lK (ty:Ty)(x:It)(D M:Int):gq ty x D M=0↔dZ ty x=0/\fM x D M=0:=by
 unfold gq;split<;>simp_all
theorem pa (ty:Ty)(s:ByteArray)(D M:Int):kb ty s D M=0↔ty.may=true/\lJ D M s=0/\dZ ty (iT D M s)=0:=by
 unfold kb;cases ty.may
 ·simp
 simp only[Bool.true_eq_false,xN,true_and];split<;>simp_all
theorem CV (ty:Ty)(x:It)(D M:Int)(h:gq ty x D M=0)(s:ByteArray)(c:s.data.toList=x.fy)(hz:s.size<18446744073709551616):kb ty s D M=0/\iT D M s=x:=by
 rw[lK]at h;obtain⟨d,b⟩:=Pj D M x h.2 s c hz;rw[pa,b];exact⟨⟨((rK ty x).1 h.1).1,d,h.1⟩,rfl⟩
theorem CW (ty:Ty)(s:ByteArray)(D M:Int)(h:kb ty s D M=0):gq ty (iT D M s) D M=0/\(iT D M s).fy=s.data.toList:=by
 rw[pa]at h;obtain⟨c,b⟩:=Pk D M s h.2.1;rw[lK];exact⟨⟨h.2.2,c⟩,b⟩
structure bj where
 id:Nat
 name:ByteArray
 ty:ByteArray
def bj.shape (e:bj):Ty:=(cL e.ty.data.toList).getD (.mk 0 0 [] 0)
def gz (c:aM)(seen:List bj)(e:bj):Int:=
 if b8 e.name=false then 11 else if(seen.any fun x=>decide (x.name=e.name))=true then 11 else if(seen.any fun x=>decide (x.id=e.id))=true then 1
 else if cL e.ty.data.toList=none then 3 else if c.fm=1/\e.shape.flat=false then 12 else 0
def ja (c:aM):List bj->List bj->Int
 |_,[]=>0
 |seen,e::r=>if gz c seen e≠0 then gz c seen e else ja c (seen++ [e]) r
def oy (c:aM)(l:List bj):Int:=if c.right=false then 1 else if 32<l.length then 4 else ja c [] l
def fA (l:List bj)(nm:ByteArray):Option bj:=l.find? fun e=>decide (e.name=nm)
def mm (c:aM)(f:Fr)(e:bj):Bool:=(decide (c.fm=1)&&decide (f.nm=e.name)&&decide (f.id=0))||(decide (c.fm≠1)&&decide (f.id=e.id)&&decide (f.nm.size=0))
def fQ (c:aM)(l:List bj)(f:Fr):Option bj:=l.find? (mm c f)
def bS (c:aM)(t:Ty)(x:It):ByteArray×Int:=if c.fm=1 then lZ t x c.it else(if gq t x c.de c.it=0 then⟨x.fy.toArray⟩else⟨#[]⟩,gq t x c.de c.it)
def dt (c:aM)(t:Ty)(s:ByteArray):Int×It:=if c.fm=1 then jD t s c.it else(kb t s c.de c.it,qj t s c.de c.it)
def bB (c:aM)(l:List bj)(nm:ByteArray)(x:It):Fr×Int:=match fA l nm with
 |none=>(om,11)
 |some e=>if(bS c e.shape x).2≠0 then(om,(bS c e.shape x).2)else if c.fm=1 then(⟨0,e.name,(bS c e.shape x).1⟩,0)else(⟨e.id,ByteArray.empty,(bS c e.shape x).1⟩,0)
structure Ms where
 name:ByteArray
 x:It
def rL :Ms:=⟨ByteArray.empty,kx⟩
def eU (c:aM)(l:List bj)(f:Fr):Int×Ms:=match fQ c l f with
 |none=>(11,rL)
 |some e=>if(dt c e.shape f.body).1=0 then(0,⟨e.name,(dt c e.shape f.body).2⟩)else if(dt c e.shape f.body).1=2 then(3,rL)else((dt c e.shape f.body).1,rL)
structure cn (c:aM)(l:List bj):Prop where
 may:∀e∈l,b8 e.name=true
 ty:∀e∈l,cL e.ty.data.toList=some e.shape
 flat:c.fm=1->∀e∈l,e.shape.flat=true
 names:∀i j (hi:i<l.length) (hj:j<l.length),l[i].name=l[j].name->i=j
 ids:∀i j (hi:i<l.length) (hj:j<l.length),l[i].id=l[j].id->i=j
theorem cn.nil (c:aM):cn c []:=⟨by simp,by simp,by simp,by simp,by simp⟩
theorem BO {c:aM}{seen:List bj}{e:bj}(h:gz c seen e=0):b8 e.name=true/\(∀x∈seen,x.name≠e.name)/\(∀x∈seen,x.id≠e.id)/\cL e.ty.data.toList=some e.shape/\(c.fm=1->e.shape.flat=true):=by
 unfold gz at h;by_cases d:b8 e.name=false
 ·rw[zj d]at h;cases h
 rw[zi d]at h;by_cases b:(seen.any fun x=>decide (x.name=e.name))=true
 ·rw[zj b]at h;cases h
 rw[zi b]at h;by_cases i:(seen.any fun x=>decide (x.id=e.id))=true
 ·rw[zj i]at h;cases h
 rw[zi i]at h;by_cases k:cL e.ty.data.toList=none
 ·rw[zj k]at h;cases h
 rw[zi k]at h;by_cases l:c.fm=1/\e.shape.flat=false
 ·rw[zj l]at h;cases h
 refine⟨by simpa using d,fun x hx j=>b (ZG.2 ⟨x,hx,zF j⟩),fun x hx j=>i (ZG.2 ⟨x,hx,zF j⟩), ?_,fun n=> ?_⟩
 ·obtain⟨t,m⟩:=Option.ne_none_iff_exists'.1 k;unfold bj.shape;rw[m];rfl
 cases hf:e.shape.flat with
 |true=>rfl
 |false=>exact absurd ⟨n,hf⟩ l
theorem cn.snoc {c:aM}{l:List bj}{e:bj}(h:cn c l)(y:gz c l e=0):cn c (l++ [e]):=by
 obtain⟨u,q,w,z,s⟩:=BO y;have key:∀{n:Type} (f:bj->n),(∀x∈l,f x≠f e)->(∀i j (hi:i<l.length) (k:j<l.length),f l[i]=f l[j]->i=j)->∀i j (hi:i<(l++ [e]).length) (k:j<(l++ [e]).length),f (l++ [e])[i]=f (l++ [e])[j]->i=j:=by
  intro n f o r i j hi k b;simp only[zk,yQ]at hi k;by_cases m:i<l.length
  ·rw[xK m]at b;by_cases d:j<l.length
   ·rw[xK d]at b;exact r i j m d b
   obtain rfl:j=l.length:=by omega
   rw[List.getElem_concat_length rfl]at b;exact absurd b (o _ (zD m))
  obtain rfl:i=l.length:=by omega
  rw[List.getElem_concat_length rfl]at b;by_cases d:j<l.length
  ·rw[xK d]at b;exact absurd b.symm (o _ (zD d))
  omega
 refine⟨fun x hx=> ?_,fun x hx=> ?_,fun p x hx=> ?_,key (·.name) q h.names,key (·.id) w h.ids⟩
 ·rcases yy.1 hx with hx|hx
  ·exact h.may x hx
  obtain rfl:=yL.1 hx;exact u
 ·rcases yy.1 hx with hx|hx
  ·exact h.ty x hx
  obtain rfl:=yL.1 hx;exact z
 rcases yy.1 hx with hx|hx
 ·exact h.flat p x hx
 obtain rfl:=yL.1 hx;exact s p
theorem Fh {c:aM}:∀(r seen:List bj),cn c seen->ja c seen r=0->cn c (seen++r)
 | [],seen,h,_=>by simpa using h
 |e::r,seen,h,hz=>by
  rw[ja]at hz;by_cases he:gz c seen e=0
  ·rw[zi (by simp[he])]at hz;have:=Fh r (seen++ [e]) (h.snoc he) hz;rwa [zC,ZA]at this
  rw[zj he]at hz;exact absurd hz he
theorem Pl {c:aM}{l:List bj}(h:oy c l=0):c.right=true/\l.length<=32/\cn c l:=by
 unfold oy at h;cases hr:c.right with
 |false=>rw[zj hr]at h;cases h
 |true=>
  rw[zi (by simp[hr])]at h;by_cases b:32<l.length
  ·rw[zj b]at h;cases h
  rw[zi b]at h;exact⟨rfl,by omega,by simpa using Fh l [] (cn.nil c) h⟩
open Go.RowKit
def mE :List (Value×Value)->Nat->List MapEntry
 | [],_=> []
 |x::xs,b=>⟨x.1,x.2,b⟩::mE xs (b+1)
theorem BP :∀(l m:List (Value×Value)) (b:Nat),mE (l++m) b=mE l b++mE m (b+l.length)
 | [],m,b=>by simp[mE]
 |x::xs,m,b=>by simp only[zW,mE,BP xs m,zz];rw[show b+1+xs.length=b+(xs.length+1)from by omega]
theorem Kq :∀(l:List (Value×Value)) (b j:Nat),(mE l b)[j]?=(l[j]?).map fun x=>⟨x.1,x.2,b+j⟩
 | [],b,j=>by simp[mE]
 |x::xs,b,0=>by simp[mE]
 |x::xs,b,j+1=>by simp only[mE,List.getElem?_cons_succ,Kq xs];rw[show b+1+j=b+(j+1)from by omega]
theorem WM {l:List (Value×Value)}{b:Nat}{e:MapEntry}(h:e∈mE l b):∃x∈l,e.key=x.1/\e.val=x.2:=by
 obtain⟨j,c⟩:=List.getElem?_of_mem h;rw[Kq]at c;cases hl:l[j]? with
 |none=>rw[hl]at c;cases c
 |some x=>
  rw[hl]at c;injection c with c;subst c;exact⟨x,xh hl,rfl,rfl⟩
theorem Kr {d:TypeDesc}{k:Value}(n:MapKept.IsKey d k)(l:List (Value×Value))(o:∀x∈l,MapKept.IsKey d x.1):
 (Instr.findNow d k (mE l 0) 0=some none/\∀x∈l,x.1≠k)\/∃j x,Instr.findNow d k (mE l 0) 0=some (some (j,x.2))/\l[j]?=some x/\x.1=k:=by
 rcases MapKept.findNow_spec n (mE l 0) 0 (fun e p=>by obtain⟨x,hx,c,_⟩:=WM p;rw[c];exact o x hx)with⟨c,b⟩|⟨j,e,c,b,h⟩
 ·refine .inl ⟨c,fun x hx=> ?_⟩;obtain⟨j,m⟩:=List.getElem?_of_mem hx;have h:=b ⟨x.1,x.2,0+j⟩ (xh (i:=j) (by rw[Kq,m];rfl));exact h
 rw[Kq]at b;cases Ch:l[j]? with
 |none=>rw[Ch]at b;cases b
 |some x=>
  rw[Ch]at b;injection b with b;subst b;exact .inr ⟨j,x,by rw[c,zJ],Ch,h⟩
section
variable {P:Program} {w:World} {g c:Nat} {T K E:TypeId} {d:TypeDesc} {k:Value} {es:List MapEntry}
def jf (w:World)(g:Nat)(l:List (Value×Value)):Prop:=w.heap[g]?=some (.map (mE l 0).toArray l.length)
theorem jf.lt {l:List (Value×Value)}(h:jf w g l):g<w.heap.size:=yJ h
theorem Fi {l:List (Value×Value)}(c:jf w g l)(i:P.underlying T=some (.map K E))(b:P.underlying K=some d)(e:MapKept.IsKey d k)(h:Instr.findNow d k (mE l 0) 0=some (some (j,v))):
 (Instr.lookup T (.map (some g)) k true).run P w= .ok (.tuple #[v,true]) w:=by
 simp[Instr.lookup,xW i,xQ c,xZ b e,Zj b h,Result.andThen]
theorem Ks {l:List (Value×Value)}(c:jf w g l)(i:P.underlying T=some (.map K E))(b:P.underlying K=some d)(e:MapKept.IsKey d k)(h:Instr.findNow d k (mE l 0) 0=some none){z:Value}(hz:(zeroValue E).run P w= .ok z w):
 (Instr.lookup T (.map (some g)) k true).run P w= .ok (.tuple #[z,false]) w:=by
 simp[Instr.lookup,xW i,xQ c,xZ b e,Zj b h,Result.andThen,hz]
def oz (w:World)(g:Nat)(l:List (Value×Value))(k v:Value):World:={w with heap:=w.heap.setIfInBounds g (.map (mE (l++ [(k,v)]) 0).toArray (l.length+1))}
theorem Kt {l:List (Value×Value)}(b:jf w g l)(j:P.underlying T=some (.map K E))(c:P.underlying K=some d)(e:MapKept.IsKey d k)(h:Instr.findNow d k (mE l 0) 0=some none)(v:Value):
 (Instr.mapUpdate T (.map (some g)) k v).run P w= .ok () (oz w g l k v):=by
 have i:(mE l 0).toArray.push ⟨k,v,l.length⟩=(mE (l++ [(k,v)]) 0).toArray:=by rw[BP];simp[mE]
 simp[Instr.mapUpdate,xW j,xQ b,xZ c e,Zj c h,Result.andThen,MapKept.run_setObj_map _ b];unfold oz;rw[<-i];simp
theorem sO {l:List (Value×Value)}(b:jf w g l)(k v:Value):jf (oz w g l k v) g (l++ [(k,v)]):=by
 unfold jf oz;simp only[zk,yQ];exact(MapKept.heap_set b).1
theorem vB (w:World)(g:Nat)(l:List (Value×Value))(k v:Value):ae [g] w (oz w g l k v):=
 ⟨rfl,rfl,rfl,by simp[oz],fun j _ c=>by
  have b:g≠j:=fun e=>c (by simp[e])
  show(w.heap.setIfInBounds g _)[j]?=_
  simp[b]⟩
theorem jf.only {l:List (Value×Value)}{L:List Nat}(h:jf w g l)(c:ae L w w')(b:g∉L):jf w' g l:=(c.block g h.lt b).trans h
theorem jf.below {l:List (Value×Value)}(h:jf w g l)(b:Below B w w')(c:g<B):jf w' g l:=(b.block g c).trans h
theorem jf.new (w:World):jf (w.alloc (.map #[] 0)) w.heap.size []:=yM w _
end
abbrev bX :=bj×Value
def Aw (l:List bX):List (Value×Value):=l.map fun r=>(.string r.1.name,r.2)
def AB (l:List bX):List (Value×Value):=l.map fun r=>(.int .u64 r.1.id,r.2)
def aJ (l:List bX):List bj:=l.map (·.1)
theorem Tm (l:List bX):∀x∈Aw l,MapKept.IsKey .string x.1:=by
 intro x hx;obtain⟨r,_,rfl⟩:=xH.1 hx;simp[MapKept.IsKey]
theorem Tn (l:List bX):∀x∈AB l,MapKept.IsKey (.int .u64) x.1:=by
 intro x hx;obtain⟨r,_,rfl⟩:=xH.1 hx;simp[MapKept.IsKey]
theorem jg {l:List bj}{p:bj->Bool}(h:∀e∈l,p e=false):l.find? p=none:=List.find?_eq_none.2 fun e b=>by simp[h e b]
theorem jh {l:List bj}{p:bj->Bool}{e:bj}(b:l[j]?=some e)(c:p e=true)(hu:∀i (x:bj),l[i]?=some x->p x=true->i=j):l.find? p=some e:=by
 cases h:l.find? p with
 |none=>exact absurd c (List.find?_eq_none.1 h e (xh b))
 |some x=>
  have hx:=Yr h;obtain⟨i,hi⟩:=List.getElem?_of_mem (Zh h);have:=hu i x hi hx;subst this;rw[hi]at b;exact b
theorem BQ {l:List bj}{x:bj}(h:l[i]?=some x):∃hi:i<l.length,l[i]=x:=by
 obtain⟨hi,e⟩:=y7.1 h;exact⟨hi,e⟩
theorem BR {c:aM}{l:List bX}(h:cn c (aJ l))(nm:ByteArray):
 (Instr.findNow .string nm (mE (Aw l) 0) 0=some none/\fA (aJ l) nm=none)\/∃(j:Nat) (r:bX),Instr.findNow .string nm (mE (Aw l) 0) 0=some (some (j,r.2))/\l[j]?=some r/\r.1.name=nm/\fA (aJ l) nm=some r.1:=by
 rcases Kr (d:= .string) (k:=nm) (by simp[MapKept.IsKey]) (Aw l) (Tm l)with⟨n,b⟩|⟨j,x,n,b,w⟩
 ·refine .inl ⟨n,jg fun e z=>zv fun m=> ?_⟩;obtain⟨r,s,rfl⟩:=xH.1 z;exact b (.string r.1.name,r.2) (xH.2 ⟨r,s,rfl⟩) (by rw[m])
 unfold Aw at b;rw[xV]at b;cases hl:l[j]? with
 |none=>rw[hl]at b;cases b
 |some r=>
  rw[hl]at b;injection b with b;subst b;have m:r.1.name=nm:=by injection w
  have o:(aJ l)[j]?=some r.1:=by unfold aJ;rw[xV,hl];rfl
  refine .inr ⟨j,r,n,hl,m,jh o (zF m) fun i x hi hx=> ?_⟩;obtain⟨u,y⟩:=BQ hi;obtain⟨q,p⟩:=BQ o;exact h.names i j u q (by rw[y,p,m];exact yf hx)
theorem Ku {c:aM}{l:List bX}(h:cn c (aJ l))(id:Nat)(p:bj->Bool)(o:∀e,p e=decide (e.id=id)):
 (Instr.findNow (.int .u64) (.int .u64 id) (mE (AB l) 0) 0=some none/\(aJ l).find? p=none)\/∃(j:Nat) (r:bX),Instr.findNow (.int .u64) (.int .u64 id) (mE (AB l) 0) 0=some (some (j,r.2))/\l[j]?=some r/\r.1.id=id/\(aJ l).find? p=some r.1:=by
 rcases Kr (d:= .int .u64) (k:= .int .u64 id) (by simp[MapKept.IsKey]) (AB l) (Tn l)with⟨n,b⟩|⟨j,x,n,b,s⟩
 ·refine .inl ⟨n,jg fun e B=>by
   rw[o];refine zv fun m=> ?_
   obtain⟨r,z,rfl⟩:=xH.1 B;exact b (.int .u64 r.1.id,r.2) (xH.2 ⟨r,z,rfl⟩) (by rw[m])⟩
 unfold AB at b;rw[xV]at b;cases hl:l[j]? with
 |none=>rw[hl]at b;cases b
 |some r=>
  rw[hl]at b;injection b with b;subst b;have m:r.1.id=id:=by injection s with _ s;omega
  have q:(aJ l)[j]?=some r.1:=by unfold aJ;rw[xV,hl];rfl
  refine .inr ⟨j,r,n,hl,m,jh q (by rw[o];exact zF m) fun i x hi hx=> ?_⟩;obtain⟨A,u⟩:=BQ hi;obtain⟨y,w⟩:=BQ q;rw[o]at hx;exact h.ids i j A y (by rw[u,w,m];exact yf hx)
theorem CX {c:aM}(h:c.fm=1)(l:List bj)(f:Fr):fQ c l f=if f.id=0 then fA l f.nm else none:=by
 unfold fQ fA;by_cases b:f.id=0
 ·rw[zj b];congr 1
  funext e
  simp[mm,h,b,eq_comm]
 rw[zi b];exact jg fun e _=>by simp[mm,h,b]
theorem Iy {c:aM}(h:c.fm≠1)(l:List bj)(f:Fr)(b:f.nm.size≠0):fQ c l f=none:=jg fun e _=>by simp[mm,h,b]
theorem To {c:aM}(h:c.fm≠1)(f:Fr)(b:f.nm.size=0)(e:bj):mm c f e=decide (e.id=f.id):=by simp[mm,h,b,eq_comm]
theorem Fj {l:List bj}{p:bj->Bool}(h:l.find? p=none):l.any p=false:=Z8.2 fun e b=>by simpa using List.find?_eq_none.1 h e b
theorem Fk {l:List bj}{p:bj->Bool}{e:bj}(h:l.find? p=some e):l.any p=true:=ZG.2 ⟨e,Zh h,Yr h⟩
theorem kd {l:List bj}{e:bj}(h:fA l nm=some e):e∈l/\e.name=nm:=⟨Zh h,yf (Yr (p:=fun x:bj=>decide (x.name=nm)) h)⟩
theorem CY {c:aM}{l:List bj}{e:bj}(h:fQ c l f=some e):e∈l/\mm c f e=true:=⟨Zh h,Yr h⟩
theorem Mk {c:aM}{l:List bj}(h:cn c l){e:bj}(m:e∈l):fA l e.name=some e:=by
 obtain⟨j,b,rfl⟩:=yY m;refine jh (zA b) (zF rfl) fun i x hi hx=> ?_
 obtain⟨d,k⟩:=BQ hi;exact h.names i j d b (by rw[k];exact yf hx)
theorem vC {c:aM}{l:List bj}(h:cn c l){e:bj}(q:e∈l)(b:mm c f e=true):fQ c l f=some e:=by
 obtain⟨j,m,rfl⟩:=yY q;refine jh (zA m) b fun i x hi hx=> ?_
 obtain⟨o,p⟩:=BQ hi;by_cases d:c.fm=1
 ·have k:f.nm=x.name:=by simp[mm,d]at hx;exact hx.1
  have n:f.nm=l[j].name:=by simp[mm,d]at b;exact b.1
  exact h.names i j o m (by rw[p,<-k,n])
 have k:f.id=x.id:=by simp[mm,d]at hx;exact hx.1
 have n:f.id=l[j].id:=by simp[mm,d]at b;exact b.1
 exact h.ids i j o m (by rw[p,<-k,n])
theorem AD (h:s.size=0):s=ByteArray.empty:=aF (by
 have:s.data.toList.length=0:=by rw[aa];exact h
 rw[zo this];rfl)
theorem Ml {c:aM}(h:c.fm=1){e:bj}(d:mm c f e=true):f=⟨0,e.name,f.body⟩:=by
 obtain⟨i,n,b⟩:=f;simp[mm,h]at d;obtain⟨rfl,rfl⟩:=d;rfl
theorem Iz {c:aM}(h:c.fm≠1){e:bj}(j:mm c f e=true):f=⟨e.id,ByteArray.empty,f.body⟩:=by
 obtain⟨i,n,b⟩:=f;simp[mm,h]at j;obtain⟨rfl,d⟩:=j;rw[show n=ByteArray.empty from by first|exact d|exact AD d]
theorem vD (x:It):(⟨x.fy.toArray⟩:ByteArray).data.toList=x.fy:=by simp
theorem oA (h:l=s.data.toList):(⟨l.toArray⟩:ByteArray)=s:=aF (by simp[h])
theorem rM {c:aM}(b:c.fm≠1)(h:(bS c t x).2=0)(hz:x.fy.length<18446744073709551616):dt c t (bS c t x).1=(0,x)/\(bS c t x).1=⟨x.fy.toArray⟩:=by
 unfold bS at h⊢;rw[zi b]at h⊢;simp only at h⊢;rw[zj h];refine⟨?_,rfl⟩;obtain⟨d,a2⟩:=CV t x c.de c.it h ⟨x.fy.toArray⟩ (vD x) (by rw[<-aa,vD];exact hz);unfold dt;rw[zi b,d];unfold qj;rw[zi (by simp[d]),a2]
theorem Mm {c:aM}(h:(dt c t s).1=0):bS c t (dt c t s).2=(s,0):=by
 unfold dt at h⊢;by_cases b:c.fm=1
 ·rw[zj b]at h⊢;obtain⟨d,a2⟩:=Iw t s c.it h;unfold bS;rw[zj b];unfold lZ;rw[zj d,oA a2]
 rw[zi b]at h⊢;simp only at h⊢;obtain⟨d,a2⟩:=CW t s c.de c.it h;have e:qj t s c.de c.it=iT c.de c.it s:=by unfold qj;rw[zi (by simp[h])]
 rw[e];unfold bS;rw[zi b,zj d,d,oA a2]
theorem kS {c:aM}{l:List bj}(h:(bB c l nm x).2=0):∃e,fA l nm=some e/\(bS c e.shape x).2=0/\(bB c l nm x).1=if c.fm=1 then⟨0,e.name,(bS c e.shape x).1⟩else⟨e.id,ByteArray.empty,(bS c e.shape x).1⟩:=by
 unfold bB at h⊢;cases hb:fA l nm with
 |none=>rw[hb]at h;cases h
 |some e=>
  rw[hb]at h;simp only at h⊢;by_cases b:(bS c e.shape x).2≠0
  ·rw[zj b]at h;exact absurd h b
  rw[zi b]at h⊢;exact⟨e,rfl,zE.1 b,by split<;>rfl⟩
theorem IA {c:aM}{l:List bj}(i:cn c l)(b:c.fm≠1)(h:(bB c l nm x).2=0)(hz:x.fy.length<18446744073709551616):eU c l (bB c l nm x).1=(0,⟨nm,x⟩):=by
 obtain⟨e,j,d,k⟩:=kS h;obtain⟨m,rfl⟩:=kd j;obtain⟨n,_⟩:=rM b d hz;rw[k,zi b];unfold eU;rw[vC i m (by simp[mm,b])];simp only[n,xL]
theorem vE {c:aM}{l:List bj}(k:cn c l)(h:(eU c l f).1=0):bB c l (eU c l f).2.name (eU c l f).2.x=(f,0):=by
 unfold eU at h⊢;cases hb:fQ c l f with
 |none=>rw[hb]at h;cases h
 |some e=>
  rw[hb]at h;simp only at h⊢;by_cases d:(dt c e.shape f.body).1=0
  ·rw[zj d]at h⊢;obtain⟨m,i⟩:=CY hb;have j:=Mm d;simp only;unfold bB;rw[Mk k m];simp only[j];rw[zi (by simp)];by_cases b:c.fm=1
   ·rw[zj b,<-Ml b i]
   rw[zi b,<-Iz b i]
  rw[zi d]at h;split at h
  ·cases h
  exact absurd h d
theorem Mn (c:aM)(l:List bj)(f:Fr):(eU c l f).1≠2:=by
 unfold eU;split
 ·simp
 split
 ·simp
 split
 ·simp
 assumption
theorem BS {c:aM}{l:List bj}(h:(bB c l nm x).2≠0):(bB c l nm x).1=om:=by
 unfold bB at h⊢;split
 ·rfl
 rename_i e d
 rw[d]at h;simp only at h⊢;by_cases b:(bS c e.shape x).2≠0
 ·rw[zj b]
 rw[zi b]at h;split at h<;>exact absurd rfl h
theorem Kv {M:Int}:∀(b:List Ty) (s:List It) (m i n:Nat),(∀j (h:j<b.length),t.at (i+j)=b[j])->m<=s.length->s.length<=b.length->
 (∀j (c:j<s.length) (k:j<b.length),∀(n:Nat) (q:List UInt8),(n:Int)+(s[j]).count<=M->(b[j]).rd M n ((s[j]).lay (b[j])++q)=⟨0,s[j],n+(s[j]).count,q⟩)->(n:Int)+aC s<=M->
 (nQ M b m n (cl s t i)).e=0/\(nQ M b m n (cl s t i)).q= []
 | [],s,m,i,n,_,_,hs,_,_=>by
  obtain rfl:s= []:=zo (by simpa using hs);simp[nQ,cl]
 |a::b,[],m,i,n,_,hm,_,_,_=>by
  have l:m=0:=by simpa using hm
  subst l;simp[nQ,cl]
 |a::b,x::xs,m,i,n,ha,hm,hs,hf,hM=>by
  simp only[aC]at hM;have d:=ha 0 (by simp);rw[xe]at d;have hx:=hf 0 (by simp) (by simp) n (cl xs t (i+1)) (by simp only[yS];omega);simp only[yS]at hx d;rw[cl,d,nQ,hx];by_cases e:m=0/\x.lay a++cl xs t (i+1)= []
  ·rw[zj e];exact⟨rfl,e.2⟩
  rw[zi e];simp only[Yo,yX,xN];exact Kv b xs (m-1) (i+1) (n+x.count) (fun j c=>by have:=ha (j+1) (by simpa using c);simpa[show i+(j+1)=i+1+j from by omega]using this) (by simp at hm;omega) (by simpa using hs)
   (fun j c k=>by have:=hf (j+1) (by simpa using c) (by simpa using k);simpa using this) (by omega)
theorem WN (M:Int)(y:M<=1024)(x:It)(t:Ty)(n:Nat)(w:t.right=true)(p:ca t.sub=true)(hi:x.dy t=true)(hx:x.right=true)(i:(n:Int)+x.count<=M):(t.rd M n (x.lay t)).e=0/\(t.rd M n (x.lay t)).q= []:=by
 by_cases m:t.kind=5
 ·obtain⟨S,b,s⟩:=x;obtain⟨k,z,l,c⟩:=t;simp only[Ty.J9]at m;subst m;obtain⟨W,G⟩:=jB w;obtain⟨U,J⟩:=mP hx;have K:=vx J;have F:¬M<=(n:Int):=by simp only[It.count]at i;omega
  simp only[It.dy,zy]at hi;obtain⟨d,L⟩:=hi;have C:=kR s _ 0 L;simp only[zJ]at C;simp only[Ty.gE]at p;replace d:=qh d;obtain⟨rfl,E,N⟩:=d;have r:∀j (h:j<l.length),(Ty.mk 5 z l c).at (0+j)=l[j]:=fun j h=>by unfold Ty.at;simp[h]
  simp only[It.count]at i;rw[mW,uv F];exact Kv (M:=M) (t:= .mk 5 z l c) l s ((l.length:Int)-c).toNat 0 (n+1) r (by omega) E (fun j u e n q I=>by
   have D:=zD u;have o:=C j u;have B:=r j e;rw[zJ]at B;rw[B]at o;have A:=Fa p j e;have H:=eF G j e;generalize l[j]=a at*;obtain⟨R,O,al,at_⟩:=a;exact Pa M y _ _ n q H (lI A).2 (mV A o q) o (K _ D) I) (by omega)
 have:=Pa M y x t n [] w p (fun h=>absurd h m) hi hx i;rw[yT]at this;rw[this];exact⟨rfl,rfl⟩
theorem Mo (t:Ty)(x:It)(M:Int)(h:il t x M=0)(s:ByteArray)(l:s.data.toList=x.lay t):(jD t s M).1=0:=by
 obtain⟨c,d,p⟩:=rI h;obtain⟨_,i,_,_,k⟩:=jE c;obtain⟨_,e,m⟩:=rH d;obtain⟨n,q,o⟩:=sN e;have b:=WN (min M 1024) (by omega) x t 0 i k m n (by omega);rw[<-l]at b;change(oo t s M).e=0/\(oo t s M).q= []at b
 have j:dh t s M=(0,(oo t s M).x,s.size):=by unfold dh;rw[zi (by simp[c]),zi (by simp[b.1]),b.2];simp
 unfold jD;rw[j];simp
def aQ (c:aM)(l:List bj)(s:ByteArray):Int×Ms×Nat×Nat:=
 if(bh c s).1≠0 then((bh c s).1,rL,(bh c s).2.2.1,(bh c s).2.2.2)else((eU c l (bh c s).2.1).1,(eU c l (bh c s).2.1).2,(bh c s).2.2.1,(bh c s).2.2.2)
theorem Kw {c:aM}{l:List bj}(h:(bh c s).1≠0):aQ c l s=((bh c s).1,rL,(bh c s).2.2.1,(bh c s).2.2.2):=by unfold aQ;rw[zj h]
theorem qk {c:aM}{l:List bj}(h:(bh c s).1=0):aQ c l s=((eU c l (bh c s).2.1).1,(eU c l (bh c s).2.1).2,(bh c s).2.2.1,(bh c s).2.2.2):=by unfold aQ;rw[zi (by simp[h])]
theorem kT {c:aM}{l:List bj}:(aQ c l s).1=2↔(bh c s).1=2:=by
 by_cases h:(bh c s).1=0
 ·rw[qk h,h];exact⟨fun b=>absurd b (Mn _ _ _),(by intro h;cases h)⟩
 rw[Kw h]
theorem BT {c:aM}{l:List bj}(h:(aQ c l s).1=0):(bh c s).1=0/\(eU c l (bh c s).2.1).1=0:=by
 by_cases b:(bh c s).1=0
 ·rw[qk b]at h;exact⟨b,h⟩
 rw[Kw b]at h;exact absurd h b
theorem lL (c:aM)(l:List bj)(s:ByteArray):(aQ c l s).2.2=(bh c s).2.2:=by unfold aQ;split<;>rfl
theorem du (c:aM)(l:List bj):mG (aQ c l):=by
 have b:=vu c;refine⟨fun s h=> ?_,fun s t h=> ?_,fun s h=> ?_⟩
 ·have:=b.pos s (BT h).1;rw[lL];exact this
 ·have e:=b.ext s t (fun d=>h (kT.2 d));unfold aQ;rw[e]
 rw[lL];exact b.short s (kT.1 h)
theorem nT {c:aM}(b:c.right=true)(l:List bj):(aQ c l ByteArray.empty).1=2:=kT.2 (Il b)
def bA (c:aM)(l:List bj)(nm:ByteArray)(x:It):ByteArray×Int:=if(bB c l nm x).2≠0 then(ByteArray.empty,(bB c l nm x).2)else gR c (bB c l nm x).1
theorem Fl {c:aM}{l:List bj}(h:(bA c l nm x).2=0):(bB c l nm x).2=0/\bA c l nm x=gR c (bB c l nm x).1:=by
 unfold bA at h⊢;by_cases b:(bB c l nm x).2≠0
 ·rw[zj b]at h;exact absurd h b
 rw[zi b];exact⟨zE.1 b,rfl⟩
theorem Fm {c:aM}(h:(gR c f).2≠0):(gR c f).1=ByteArray.empty:=by
 unfold gR at h⊢;split
 ·split
  ·rfl
  split
  ·rfl
  rename_i e b d
  rw[zj e,zi b,zi d]at h;exact absurd rfl h
 rfl
theorem Mp {c:aM}{l:List bj}(h:(bA c l nm x).2≠0):(bA c l nm x).1=ByteArray.empty:=by
 unfold bA at h⊢;by_cases b:(bB c l nm x).2≠0
 ·rw[zj b]
 rw[zi b]at h⊢;exact Fm h
def Mq (l:List bj):Prop:=∀e∈l,e.id<18446744073709551616
theorem Fo {c:aM}{l:List bj}(hid:Mq l)(h:(bB c l nm x).2=0):(bB c l nm x).1.id<18446744073709551616:=by
 obtain⟨e,d,_,b⟩:=kS h;rw[b];split
 ·simp
 exact hid e (kd d).1
theorem Tp {c:aM}{l:List bj}(j:cn c l)(h:(bB c l nm x).2=0)(hz:x.fy.length<18446744073709551616):
 ∃y,eU c l (bB c l nm x).1=(0,⟨nm,y⟩)/\(c.fm≠1->y=x)/\bB c l nm y=((bB c l nm x).1,0):=by
 by_cases b:c.fm=1
 ·obtain⟨e,n,d,k⟩:=kS h;obtain⟨p,rfl⟩:=kd n;rw[zj b]at k;have m:fQ c l (bB c l e.name x).1=some e:=vC j p (by rw[k];simp[mm,b]);have o:(dt c e.shape (bS c e.shape x).1).1=0:=by
   unfold bS at d⊢;rw[zj b]at d⊢;unfold dt;rw[zj b];unfold lZ at d⊢;by_cases i:il e.shape x c.it=0
   ·rw[zj i];exact Mo e.shape x c.it i _ (by simp)
   rw[zi i]at d;exact absurd d i
  have hd:eU c l (bB c l e.name x).1=(0,⟨e.name,(dt c e.shape (bS c e.shape x).1).2⟩):=by
   unfold eU;rw[m];simp only[k,o,xL]
  refine⟨_,hd,fun h=>absurd b h, ?_⟩;have:=vE j (f:=(bB c l e.name x).1) (by rw[hd]);rw[hd]at this;exact this
 have hd:=IA j b h hz;refine⟨x,hd,fun _=>rfl,ZZ rfl h⟩
theorem Tq {c:aM}{l:List bj}(j:c.right=true)(q:cn c l)(hid:Mq l)(h:(bA c l nm x).2=0)(hz:x.fy.length<18446744073709551616):
 ∃y k,(∀T,aQ c l ((bA c l nm x).1++T)=(0,⟨nm,y⟩,(bA c l nm x).1.size,k))/\(c.fm≠1->y=x)/\bA c l nm y=bA c l nm x:=by
 obtain⟨m,d⟩:=Fl h;obtain⟨y,hd,o,r⟩:=Tp q m hz;have p:gR c (bB c l nm x).1=((bA c l nm x).1,0):=by rw[<-d];exact ZZ rfl h
 have n:=fun T=>(O3 (Fo hid m) p T).1
 obtain⟨k,b⟩:=n ByteArray.empty;have i:∀T,bh c ((bA c l nm x).1++T)=(0,(bB c l nm x).1,(bA c l nm x).1.size,k):=fun T=>by
  have e:=(vu c).ext (bA c l nm x).1 T (by rw[cz j];rw[iI]at b;rw[b];simp);rw[e,cz j];rw[iI]at b;exact b
 refine⟨y,k,fun T=> ?_,o, ?_⟩
 ·rw[qk (by rw[i]),i,hd]
 rw[d];unfold bA;rw[r,zi (by simp)]
theorem Fp {c:aM}{l:List bj}(b:c.right=true)(j:cn c l)(hid:Mq l)(h:(bA c l nm x).2=0)(hz:x.fy.length<18446744073709551616):
 ∃y k,(∀T,split (aQ c l) ((bA c l nm x).1++T)=(split (aQ c l) T).cons ⟨nm,y⟩ k)/\split (aQ c l) (bA c l nm x).1=([⟨nm,y⟩],ByteArray.empty,k,0)/\(c.fm≠1->y=x)/\bA c l nm y=bA c l nm x:=by
 obtain⟨y,k,d,e,i⟩:=Tq b j hid h hz;have key:∀T,split (aQ c l) ((bA c l nm x).1++T)=(split (aQ c l) T).cons ⟨nm,y⟩ k:=fun T=>by
  rw[iC (du c l) (by rw[d]),d];simp only;rw[J6 _ _ _ (zd _)];have:(bA c l nm x).1.extract (bA c l nm x).1.size (bA c l nm x).1.size++T=T:=by
   apply aF;rw[aW,aq,cP,zK (by rw[aa];exact zd _),yo]
  rw[this]
 refine⟨y,k,key, ?_,e,i⟩;have:=key ByteArray.empty;rw[iI,dm (du c l) (nT b l)]at this;rw[this];rfl
theorem BU (c:aM)(s:ByteArray):(bh c s).2.2.2<=65536:=by
 unfold bh;by_cases b:c.right=true
 ·rw[zj b];have:=(c.ic).1 b;unfold bz;split
  ·exact yb _
  split
  ·exact yb _
  show(aT c.fr c.un s).2.2.2.2<=65536
  rw[bN];split
  ·exact yb _
  split
  ·exact yb _
  split
  ·exact yb _
  rename_i h
  split
  ·show(aB (aj c.fr s).2.2.1).1<=65536;omega
  show(aB (aj c.fr s).2.2.1).1<=65536;omega
 rw[zi b];exact yb _
theorem IB (c:aM)(s:ByteArray)(h:s.size<=1099511627776):(bh c s).2.1.body.size<=1099511627776:=by
 by_cases b:c.right=true
 ·have d:=(c.ic).1 b;rw[cz b];have:=(Mc c s).2;omega
 have e:bh c s=(1,om,0,0):=by unfold bh;rw[zi b]
 rw[e];exact yb _
structure sP {α:Type}(nx:Nx α)(x:iZ)(s:ByteArray)(l:List α):Prop where
 fault:x.fault=(split nx s).2.2.2
 told:l=(split nx s).1
 buf:x.fault=0->x.buf=(split nx s).2.1
theorem sP.new {c:Type}{b:Nx c}(h:mG b)(d:(b ByteArray.empty).1=2):sP b iZ.new ByteArray.empty ([]:List c):=by
 have:=dm h d;exact⟨by rw[this];rfl,by rw[this],fun _=>by rw[this];rfl⟩
theorem sP.kK {d:Type}{c:Nx d}(h:mG c){x:iZ}{l:List d}(hx:sP c x s l)(t:ByteArray):sP c (kK c x t).1 (s++t) (l++(kK c x t).2.1):=by
 by_cases b:x.fault=0
 ·have e:=lA h s t (by rw[<-hx.fault];exact b);rw[hZ b,hx.buf b,hx.told];exact⟨by rw[e],by rw[e],fun _=>by rw[e]⟩
 have e:=oV h s t;rw[zi (by rw[<-hx.fault];exact b)]at e;rw[jx b,hx.told];exact⟨by rw[e];exact hx.fault,by rw[e];simp,fun i=>absurd i b⟩
theorem sP.same {c:Type}{d:Nx c}{x y:iZ}{l m:List c}(hx:sP d x s l)(b:sP d y s m):l=m/\x.fault=y.fault/\(x.fault=0->x.buf=y.buf):=
 ⟨hx.told.trans b.told.symm,hx.fault.trans b.fault.symm,fun h=>(hx.buf h).trans (b.buf (by rw[b.fault,<-hx.fault];exact h)).symm⟩
theorem Pm (c:aM)(l:List bj)(s:ByteArray):(split (aQ c l) s).1.length<=s.size:=by
 induction s using kJ (du c l)with
 |stop s h0=>rw[jw (du c l),zi h0];simp
 |go s h0 ih=>
  obtain⟨d,b⟩:=(du c l).pos s h0;have hz:(s.extract (aQ c l s).2.2.1 s.size).size=s.size-(aQ c l s).2.2.1:=ar _ _ _ (zd _);rw[iC (du c l) h0];show(_::_).length<=_
  simp only[zz];omega
theorem IC (c:aM)(l:List bj)(s:ByteArray):(split (aQ c l) s).2.1.size<=s.size:=by
 obtain⟨k,b,e⟩:=tD (du c l) s;rw[e,ar _ _ _ (zd _)];omega
theorem WO (c:aM)(l:List bj)(s:ByteArray):(split (aQ c l) s).2.2.1<=65536*(s.size+1):=by
 have h:=du c l;have b:∀s,(aQ c l s).2.2.2<=65536:=fun s=>by rw[lL];exact BU c s
 induction s using kJ h with
 |stop s h0=>
  rw[jw h,zi h0];have:=b s;show(aQ c l s).2.2.2<=_
  omega
 |go s h0 ih=>
  rw[iC h h0];obtain⟨e,d⟩:=h.pos s h0;have i:=nL s _ e d;have:=b s;show(aQ c l s).2.2.2+(split (aQ c l) (s.extract (aQ c l s).2.2.1 s.size)).2.2.1<=_
  have:65536*((s.extract (aQ c l s).2.2.1 s.size).size+1)<=65536*s.size:=Nat.mul_le_mul_left _ (by omega);omega
theorem lt_of_cell {w:World}{b:Nat}(h:w.cell? (b,o)=some v):b<w.heap.size:=by
 rcases xp b w.heap.size with h'|h'
 ·exact h'
 simp[World.cell?,xq h']at h
mutual
def bI (w:World)(B:Nat):It->Value->Value->Value->Prop
 | .mk t l s,c0,c1,c2=>c0= .string t/\c1= .bool l/\t.size<=9223372036854775807/\s.length<=9223372036854775807/\∃A cap,c2= .slice A s.length cap/\s.length<=cap/\cap<=9223372036854775807/\bK w B s A 0
def bK (w:World)(B:Nat):List It->Option Addr->Nat->Prop
 | [],_,_=>True
 |x::xs,A,i=>(∃b o c0 c1 c2,A=some ⟨b,o,none⟩/\b<B/\(w,b,o+i*3,c0)/\(w,b,o+i*3+1,c1)/\(w,b,o+i*3+2,c2)/\bI w B x c0 c1 c2)/\bK w B xs A (i+1)
end
theorem bK.at_ {w:World}:∀{s:List It} {i:Nat},bK w B s A i->∀(j:Nat) (h:j<s.length),∃b o d e c,A=some ⟨b,o,none⟩/\b<B/\(w,b,o+(i+j)*3,d)/\(w,b,o+(i+j)*3+1,e)/\(w,b,o+(i+j)*3+2,c)/\bI w B s[j] d e c
 | [],_,_,j,h=>by simp at h
 |x::xs,i,hi,0,_=>by simpa[bK]using hi.1
 |x::xs,i,hi,j+1,h=>by
  have:=bK.at_ hi.2 j (by simpa using h);rw[show i+1+j=i+(j+1)from by omega]at this;simpa using this
theorem bK.tI {w:World}:∀{s:List It} {i:Nat},(∀(j:Nat) (h:j<s.length),∃b o e c d,A=some ⟨b,o,none⟩/\b<B/\(w,b,o+(i+j)*3,e)/\(w,b,o+(i+j)*3+1,c)/\(w,b,o+(i+j)*3+2,d)/\bI w B s[j] e c d)->bK w B s A i
 | [],_,_=>by simp[bK]
 |x::xs,i,h=>by
  refine⟨h 0 (Z5 _),bK.tI fun j k=> ?_⟩;have:=h (j+1) (by simpa using k);rw[show i+(j+1)=i+1+j from by omega]at this;simpa using this
theorem bI.open_ {w:World}{b d c:Value}(h:bI w B x b d c):∃A cap,b= .string x.text/\d= .bool x.list/\c= .slice A x.sub.length cap/\x.text.size<=9223372036854775807/\x.sub.length<=cap/\cap<=9223372036854775807/\bK w B x.sub A 0:=by
 cases x with
 |mk t l s=>
  obtain⟨i,m,j,p,A,cap,e,o,k,n⟩:=h;exact⟨A,cap,i,m,e,j,o,k,n⟩
theorem bI.ah {w:World}(J:B<=n)(e:∀p:Addr,p.block<B->w'.cell? p=w.cell? p):∀(x:It) {i d c:Value},bI w B x i d c->bI w' n x i d c:=by
 intro x;induction x using It.ind with
 |h t l s ih=>
  intro i d c h;obtain⟨G,D,r,C,A,cap,q,I,z,H⟩:=h;refine⟨G,D,r,C,A,cap,q,I,z,bK.tI fun j m=> ?_⟩;obtain⟨b,o,d0,d1,d2,F,k,u,E,y,hi⟩:=H.at_ j m;exact⟨b,o,d0,d1,d2,F,by omega,(e _ k).trans u,(e _ k).trans E,(e _ k).trans y,ih _ (zD m) hi⟩
theorem bI.below {w:World}{b d c:Value}(h:bI w B x b d c)(e:Below B w w'):bI w' B x b d c:=bI.ah (zd _) (fun _ i=>e.cell i) x h
theorem bI.mono {w:World}{b:Nat}{c d:Value}(h:bI w B x c e d)(i:B<=b):bI w b x c e d:=bI.ah i (fun _ _=>rfl) x h
theorem bK.below {w:World}{s:List It}(h:bK w B s A i)(c:Below B w w'):bK w' B s A i:=bK.tI fun j k=>by
 obtain⟨b,o,d0,d1,d2,l,d,m,n,e,hi⟩:=h.at_ j k;exact⟨b,o,d0,d1,d2,l,d,(c.cell d).trans m,(c.cell d).trans n,(c.cell d).trans e,hi.below c⟩
theorem bI.one {w:World}{d b c:Value}(h:bI w B x d b c):d.oneCell'=true/\b.oneCell'=true/\c.oneCell'=true:=by
 obtain⟨A,cap,rfl,rfl,rfl,_⟩:=h.open_;exact⟨rfl,rfl,rfl⟩
def eV (w:World)(B:Nat):List It->List Value->Prop
 | [],cs=>cs= []
 |x::xs,cs=>∃c0 c1 c2 ds,cs=c0::c1::c2::ds/\bI w B x c0 c1 c2/\eV w B xs ds
theorem eV.length {w:World}:∀{s:List It} {b:List Value},eV w B s b->b.length=s.length*3
 | [],b,h=>by simp[eV]at h;simp[h]
 |x::xs,b,h=>by
  obtain⟨e,j,i,d,rfl,_,c⟩:=h;have:=c.length;simp only[zz,this];omega
theorem eV.one {w:World}:∀{s:List It} {b:List Value},eV w B s b->∀u∈b,u.oneCell'=true
 | [],b,h=>by simp[eV]at h;simp[h]
 |x::xs,b,h=>by
  obtain⟨k,m,l,j,rfl,i,d⟩:=h;have c:=i.one;have e:=d.one;intro u hu;simp only[yI]at hu;rcases hu with rfl|rfl|rfl|hu
  ·exact c.1
  ·exact c.2.1
  ·exact c.2.2
  exact e u hu
theorem eV.ah {w:World}{d:Nat}(e:B<=d)(c:∀p:Addr,p.block<B->w'.cell? p=w.cell? p):∀{s:List It} {b:List Value},eV w B s b->eV w' d s b
 | [],b,h=>h
 |x::xs,b,h=>by
  obtain⟨m,n,l,k,rfl,j,i⟩:=h;exact⟨m,n,l,k,rfl,bI.ah e c x j,i.ah e c⟩
theorem bK.cells {w:World}{b:Nat}:∀{s:List It} {i:Nat},bK w B s (some (b,o)) i->∃l,eV w B s l/\∀j u,l[j]?=some u->w.cell? (b,o+i*3+j)=some u
 | [],i,_=>⟨[],rfl,by simp⟩
 |x::xs,i,h=>by
  obtain⟨⟨A,z,e,m,k,c,_,q,r,p,hi⟩,n⟩:=h;injection c with c;injection c with hb ho;subst hb;subst ho;obtain⟨d,hd,y⟩:=n.cells;refine⟨e::m::k::d,⟨e,m,k,d,rfl,hi,hd⟩,fun j u hu=> ?_⟩;match j,hu with
  |0,hu=>simp at hu;subst hu;exact q
  |1,hu=>simp at hu;subst hu;exact r
  |2,hu=>simp at hu;subst hu;exact p
  |j+3,hu=>
   have:=y j u (by simpa using hu);rw[show o+i*3+(j+3)=o+(i+1)*3+j from by omega];exact this
theorem bK.dN {w:World}{b:Nat}(d:b<B):∀{s:List It} {i:Nat} {c:List Value},eV w B s c->(∀j u,c[j]?=some u->w.cell? (b,o+i*3+j)=some u)->bK w B s (some (b,o)) i
 | [],_,_,_,_=>trivial
 |x::xs,i,c,h,hc=>by
  obtain⟨e,l,k,p,rfl,n,m⟩:=h;refine⟨⟨b,o,e,l,k,rfl,d,by simpa using hc 0 e (by simp),hc 1 l (by simp),hc 2 k (by simp),n⟩,bK.dN d m fun j u hu=> ?_⟩;have:=hc (j+3) u (by simpa using hu);rw[show o+(i+1)*3+j=o+i*3+(j+3)from by omega];exact this
def mu (i:Int):Prop:= -9223372036854775808<=i/\i<=9223372036854775807
mutual
def cq (w:World)(B:Nat):Ty->Value->Value->Value->Value->Prop
 | .mk k s l t,c0,c1,c2,c3=>c0= .int .i64 k/\c1= .int .i64 s/\c3= .int .i64 t/\mu k/\mu s/\mu t/\l.length<=9223372036854775807/\∃A cap,c2= .slice A l.length cap/\l.length<=cap/\cap<=9223372036854775807/\eW w B l A 0
def eW (w:World)(B:Nat):List Ty->Option Addr->Nat->Prop
 | [],_,_=>True
 |x::xs,A,i=>(∃b o c0 c1 c2 c3,A=some ⟨b,o,none⟩/\b<B/\(w,b,o+i*4,c0)/\(w,b,o+i*4+1,c1)/\(w,b,o+i*4+2,c2)/\(w,b,o+i*4+3,c3)/\cq w B x c0 c1 c2 c3)/\eW w B xs A (i+1)
end
theorem eW.at_ {w:World}:∀{s:List Ty} {i:Nat},eW w B s A i->∀(j:Nat) (h:j<s.length),∃b o d k c e,A=some ⟨b,o,none⟩/\b<B/\(w,b,o+(i+j)*4,d)/\(w,b,o+(i+j)*4+1,k)/\(w,b,o+(i+j)*4+2,c)/\(w,b,o+(i+j)*4+3,e)/\cq w B s[j] d k c e
 | [],_,_,j,h=>by simp at h
 |x::xs,i,hi,0,_=>by simpa[eW]using hi.1
 |x::xs,i,hi,j+1,h=>by
  have:=eW.at_ hi.2 j (by simpa using h);rw[show i+1+j=i+(j+1)from by omega]at this;simpa using this
theorem eW.tI {w:World}:∀{s:List Ty} {i:Nat},(∀(j:Nat) (h:j<s.length),∃b o d k e c,A=some ⟨b,o,none⟩/\b<B/\(w,b,o+(i+j)*4,d)/\(w,b,o+(i+j)*4+1,k)/\(w,b,o+(i+j)*4+2,e)/\(w,b,o+(i+j)*4+3,c)/\cq w B s[j] d k e c)->eW w B s A i
 | [],_,_=>by simp[eW]
 |x::xs,i,h=>by
  refine⟨h 0 (Z5 _),eW.tI fun j l=> ?_⟩;have:=h (j+1) (by simpa using l);rw[show i+(j+1)=i+1+j from by omega]at this;simpa using this
theorem cq.open_ {w:World}{x:Ty}{c d b:Value}(h:cq w B x c d e b):∃A cap,c= .int .i64 x.kind/\d= .int .i64 x.size/\e= .slice A x.sub.length cap/\b= .int .i64 x.tail/\mu x.kind/\mu x.size/\mu x.tail/\x.sub.length<=cap/\cap<=9223372036854775807/\eW w B x.sub A 0:=by
 cases x with
 |mk k s l t=>
  obtain⟨j,q,r,n,p,m,z,A,cap,i,u,o,y⟩:=h;exact⟨A,cap,j,q,i,r,n,p,m,u,o,y⟩
theorem cq.ah {w:World}{r:Nat}(R:B<=r)(c:∀p:Addr,p.block<B->w'.cell? p=w.cell? p):∀(x:Ty) {n m i e:Value},cq w B x n m i e->cq w' r x n m i e:=by
 intro x;induction x using Ty.ind with
 |h k s l t ih=>
  intro n m i e h;obtain⟨M,H,N,L,G,y,E,A,cap,u,O,F,C⟩:=h;refine⟨M,H,N,L,G,y,E,A,cap,u,O,F,eW.tI fun j q=> ?_⟩;obtain⟨b,o,d0,d1,d2,d3,K,d,z,J,D,I,hi⟩:=C.at_ j q;exact⟨b,o,d0,d1,d2,d3,K,by omega,(c _ d).trans z,(c _ d).trans J,(c _ d).trans D,(c _ d).trans I,ih _ (zD q) hi⟩
theorem cq.below {w:World}{x:Ty}{c d b:Value}(h:cq w B x c e d b)(i:Below B w w'):cq w' B x c e d b:=cq.ah (zd _) (fun _ j=>i.cell j) x h
theorem cq.mono {w:World}{c:Nat}{x:Ty}{d i b:Value}(h:cq w B x d i e b)(j:B<=c):cq w c x d i e b:=cq.ah j (fun _ _=>rfl) x h
theorem eW.ah {w:World}{e:Nat}(u:B<=e)(c:∀p:Addr,p.block<B->w'.cell? p=w.cell? p){s:List Ty}(h:eW w B s A i):eW w' e s A i:=eW.tI fun j l=>by
 obtain⟨b,o,d0,d1,d2,d3,m,d,n,r,k,q,hi⟩:=h.at_ j l;exact⟨b,o,d0,d1,d2,d3,m,by omega,(c _ d).trans n,(c _ d).trans r,(c _ d).trans k,(c _ d).trans q,hi.ah u c⟩
theorem eW.below {w:World}{s:List Ty}(h:eW w B s A i)(b:Below B w w'):eW w' B s A i:=h.ah (zd _) (fun _ c=>b.cell c)
theorem aU {w:World}{g:Nat}{t:TypeId}{b c d:Value}(h:ag w g t #[a,b,c,d]):(w,g,0,a)/\(w,g,1,b)/\(w,g,2,c)/\(w,g,3,d)/\w.frozen? (g,0)=false/\w.frozen? (g,1)=false/\w.frozen? (g,2)=false/\w.frozen? (g,3)=false:=
 ⟨h.cell 0,h.cell 1,h.cell 2,h.cell 3,h.frozen 0,h.frozen 1,h.frozen 2,h.frozen 3⟩
theorem Mr {w:World}{t:TypeId}{b c d:Value}(e:Below (w.heap.size+1) (w.alloc (.cells #[a,b,c,d] t)) w'):(w',w.heap.size,0,a)/\(w',w.heap.size,1,b)/\(w',w.heap.size,2,c)/\(w',w.heap.size,3,d):=by
 have i:=ag.new w t #[a,b,c,d];have h:ag w' w.heap.size t #[a,b,c,d]:=(e.block _ (by omega)).trans i;exact⟨h.cell 0,h.cell 1,h.cell 2,h.cell 3⟩
def Way (w:World)(base:Nat)(E:TypeId)(v:Value)(l:List UInt8):Prop:=
 ∃A cap,v= .slice A l.length cap/\l.length<=cap/\cap<=9223372036854775807/\
  ((A=none/\cap=0)\/∃g off cur fr,A=some ⟨g,off,none⟩/\base<=g/\w.heap[g]?=some (.cells cur E fr)/\off+cap<=cur.size/\(cur.toList.drop off).take l.length=cb l/\(fr.2=0\/cur.size<=fr.1))
theorem Way.nil (w:World)(base:Nat)(E:TypeId):Way w base E nS []:=⟨none,0,rfl,by simp,by simp,.inl ⟨rfl,rfl⟩⟩
theorem Way.cy {w:World}{E:TypeId}(h:Way w base E v l):∃A n cap,v= .slice A n cap/\Hid (n=l.length)/\n<=cap/\cap<=9223372036854775807:=by
 obtain⟨A,cap,c,b,d,_⟩:=h;exact⟨A,_,cap,c,za rfl,b,d⟩
theorem Way.ge {w:World}{E:TypeId}(h:Way w base E v l):∀g,v.ownBlock=some g->base<=g/\g<w.heap.size/\∃b d,w.heap[g]?=some (.cells b E d):=by
 obtain⟨A,cap,rfl,n,o,m⟩:=h;intro g i;rcases m with⟨c,_⟩|⟨k,off,b,d,c,j,e,_⟩
 ·subst c;cases i
 subst c;have:k=g:=by simpa[Value.ownBlock]using i
 subst this;exact⟨j,yJ e,b,d,e⟩
theorem Way.cx {w:World}{E t:TypeId}{g:Nat}{i:Array Value}{j:Nat×Nat}(h:Way w base E v l)(c:w.heap[g]?=some (.cells i t j))(d:t≠E):v.ownBlock≠some g:=by
 intro e;obtain⟨_,_,k,m,b⟩:=h.ge g e;rw[c]at b;injection b with b;injection b with _ b;exact d b
theorem Way.ah {w:World}{E:TypeId}(h:Way w base E v l)(d:∀k,k<w.heap.size->v.ownBlock=some k->w'.heap[k]?=w.heap[k]?):Way w' base E v l:=by
 obtain⟨A,cap,rfl,c,e,b⟩:=h;refine⟨A,cap,rfl,c,e, ?_⟩;rcases b with b|⟨g,off,cur,fr,hA,hg,hh,r⟩
 ·exact .inl b
 exact .inr ⟨g,off,cur,fr,hA,hg,(d g (yJ hh) (by subst hA;rfl)).trans hh,r⟩
theorem Way.mono {w:World}{c:Nat}{E:TypeId}(h:Way w base E v l)(j:c<=base):Way w c E v l:=by
 obtain⟨A,cap,e,d,i,b⟩:=h;refine⟨A,cap,e,d,i, ?_⟩;rcases b with b|⟨g,off,cur,fr,hA,hg,r⟩
 ·exact .inl b
 exact .inr ⟨g,off,cur,fr,hA,by omega,r⟩
theorem Way.cells {w:World}{E:TypeId}(h:Way w base E (.slice A n cap) l):∀a,A=some a->∀j u,(cb l)[j]?=some u->w.cell? (a.add j)=some u:=by
 obtain⟨s,x,m,p,z,d⟩:=h;injection m with c _ hc;subst c;subst hc;intro a b j u hu;rcases d with⟨d,_⟩|⟨g,off,r,C,c,B,e,y,k,q⟩
 ·rw[d]at b;cases b
 rw[c]at b;injection b with b;subst b;have o:((g,off):Addr).add j=⟨g,off+j,none⟩:=by unfold Addr.add;split<;>simp_all
 have i:j<l.length:=by have:=(y7.1 hu).1;rwa [aO]at this
 rw[o];simp only[World.cell?,e];rw[<-k,yr i,xa]at hu;simpa using hu
theorem Way.len {w:World}{E:TypeId}(h:Way w base E (.slice A n cap) l):n=l.length/\n<=cap/\(A=none->cap=0):=by
 obtain⟨j,m,d,i,_,c⟩:=h;injection d with b hn hc;subst b;subst hc;refine⟨hn,by omega,fun e=> ?_⟩;rcases c with⟨_,c⟩|⟨g,off,k,o,b,_⟩
 ·exact c
 rw[e]at b;cases b
theorem Way.str {P:Program}{w:World}{src dst e:TypeId}(c:P.underlying src=some (.slice e))(d:P.underlying e=some (.int .u8))(hd:P.underlying dst=some .string){cap2:Nat}{E:TypeId}
 (h:Way w base E (.slice A n cap) l) {k:Nat} (m:k<=n):(convert src dst (.slice A k cap2)).run P w= .ok (.string ⟨(l.take k).toArray⟩) w:=by
 obtain⟨rfl,o,hz⟩:=h.len;cases A with
 |none=>
  have:=hz rfl;obtain rfl:k=0:=by omega
  rw[Zl w src dst e none _ cap2 c d hd];rfl
 |some a=>
  have b:(l.take k).length=k:=by rw[zU];omega
  have:=ui (P:=P) w src dst e c d hd a cap2 (l.take k) (fun j u hu=>h.cells a rfl j u (by
   have i:j<k:=by have:=(y7.1 hu).1;rw[aO,b]at this;exact this
   rw[show cb (l.take k)=(cb l).take k from by simp[cb],yr i]at hu;exact hu))
  rw[b]at this;exact this
theorem Way.cut {w:World}{E:TypeId}{g d:Nat}(h:Way w base E (.slice (some (g,d)) n cap) l){k:Nat}(C:k<=n){c:Nat}(j:c=d+k\/(cap=k/\c=d)):Way w base E (.slice (some (g,c)) (n-k) (cap-k)) (l.drop k):=by
 obtain⟨rfl,F,_⟩:=h.len;obtain⟨A,x,p,u,D,o⟩:=h;injection p with b _ SE;subst b;subst SE;rcases o with⟨b,_⟩|⟨B,z,i,s,b,r,q,y,m,e⟩
 ·cases b
 injection b with b;injection b with Cj VV _;subst Cj;subst VV;refine⟨_,_,by rw[zP],by rw[zP];omega,by omega,.inr ⟨g,c,i,s,rfl,r,q,by omega, ?_,e⟩⟩;rcases j with rfl|⟨e1,rfl⟩
 ·have:cb (l.drop k)=(cb l).drop k:=by simp[cb]
  rw[this,<-m,zP,Za,xw]
 have:l.drop k= []:=zK (by omega);rw[this];rfl
theorem Way.CN {P:Program}{w:World}{E:TypeId}(h:Way w base E v l)(t d ty:TypeId)(i:TypeInfo)(p:P.underlying t=some (.slice E))(hi:P.info? E=some i)(hz:i.zero=some (.int .u8 0))(n:i.size=1)(H:i.bytes=1)
 (c:Value) (m:List UInt8) (O:Src P 1 d c m.length (cb m) w) (hb:base<=w.heap.size) (aa:l.length+m.length<=140737488355328):
 ∃r w',(Builtin.append_ #[t,d] ty #[v,c]).run P w= .ok r w'/\Way w' base E r (l++m)/\lE w w' v r:=by
 have F:=h;obtain⟨A,cap,rfl,uB,Z,J⟩:=h;have y:Src P i.size d c m.length (cb m) w:=by rw[n];exact O
 by_cases C:l.length+m.length<=cap
 ·rcases J with⟨x,G⟩|⟨g,off,b,fr,x,hg,u,fa,N,B⟩
  ·subst x;subst G;have q:l= []:=zo (by omega);have K:m= []:=zo (by omega);subst q;subst K;exact⟨_,w,ZB w t d ty E i p hi none 0 0 (zd _) c y,Way.nil w base E,lE.refl _ _⟩
  subst x;have o:=run_append_room_src (P:=P) w t d ty E i p hi g off l.length cap c m.length (cb m) y C
   (by
    intro j s;rw[aO]at s;have:off+l.length*i.size+j<b.size:=by rw[n];omega
    simp only[World.cell?,u];rw[Zi this];rfl)
   (by
    intro j s;rw[aO]at s;exact dJ u (by rw[n];rcases B with h|h;exact .inl h;exact .inr (by omega)))
  rw[n,xG]at o;obtain⟨z,W,U,D⟩:=fJ (cb m) (off+l.length) w b u (by rw[aO];omega);refine⟨_,_,o,⟨_,cap,by rw[zk],by rw[zk];exact C,Z,.inr ⟨g,off,z,fr,rfl,hg,W,by omega, ?_,by rw[U];exact B⟩⟩,⟨Z3 _ _ _ _,iy _ _ _ _,Zz _ _ _ _,by rw[fK];exact zd _,fun k Y R=>Ze w g (off+l.length) (cb m) Y (fun e=>R (by subst e;rfl))⟩,.inl rfl⟩;rw[zk,eG];have S:(z.toList.drop off).take (l.length+m.length)=(z.toList.take (off+l.length+m.length)).drop off:=by
   rw[Za];congr 1;omega
  have L:(b.toList.take (off+l.length)).drop off=(b.toList.drop off).take l.length:=by
   rw[Za];congr 1;omega
  rw[aO]at D;rw[S,D,yw (by rw[zU];have oO:b.toList.length=b.size:=Array.length_toList;omega),L,N]
 have I:(Builtin.firstCells i.size l.length (.slice A l.length cap)).run P w.drew= .ok (cb l).toArray w.drew:=by
  have hc:=F.cells;cases A with
  |none=>
   have:=F.len.2.2 rfl;have q:l= []:=zo (by omega);subst q;exact run_firstCells_none w.drew i.size 0 0 cap
  |some a=>exact run_firstCells_some w.drew i.size l.length _ l.length cap (cb l) (by rw[aO,n,xG]) (hc a rfl)
 have M:Builtin.nextslicecap (l.length+m.length) cap*i.bytes<=281474976710656:=by
  rw[H];exact growslice_fits (by omega) (by omega)
 have o:=run_append_grow_src (P:=P) w t d ty E i (.int .u8 0) p hi hz A l.length cap (cb l) I c m.length (cb m) y (by omega) (by omega) M;have X:=grownCap_ge w (l.length+m.length) cap E;have g2:=Zo w (l.length+m.length) cap E (by simp[maxLen];omega);refine⟨_,_,o,⟨_,_,by rw[zk],by rw[zk];exact X,by simpa[maxLen]using g2,.inr ⟨w.heap.size,0,_,(0,0),rfl,hb,yM w.drew _, ?_, ?_,.inl rfl⟩⟩,iH (cR ((zm w.heap.size w).drew.alloc (by simp) _)) _,.inr ⟨w.heap.size,rfl,zd _⟩⟩
 ·simp only[Array.size_append,Zx,zk,aO,size_zeroCells];have:(Value.int .u8 0).cells.size=1:=rfl;rw[this];omega
 rw[zL,Array.toList_append,zk,zV (by simp[aO]),eG];exact zx (by simp[aO])
theorem ql {P:Program}{w:World}{rest:List Oper}{o:Oper}{a:Act}(y:o.guard=none)(s x:Operand)(t j:TypeId)
 (n:o.op= .call {callee:= .builtin .append,args:= #[s,x],argTypes:= #[t,j]}) (base:Nat) (E:TypeId) (i:TypeInfo) (q:P.underlying t=some (.slice E)) (hi:P.info? E=some i) (hz:i.zero=some (.int .u8 0)) (B:i.size=1) (r:i.bytes=1)
   (F:a.eval s=v) (h:Way w base E v l) (e:Value) (m:List UInt8) (hx:a.eval x=e) (A:Src P 1 j e m.length (cb m) w) (G:base<=w.heap.size) (D:l.length+m.length<=140737488355328)
 (z:∀(c:Option Addr) (d b:Nat) w',Way w' base E (.slice c d b) (l++m)->lE w w' v (.slice c d b)->wpList P ops Q rest (a.put o.dst (.slice c d b)) w'):wpList P ops Q (o::rest) a w:=
 Ye y fun K C=>by
  obtain⟨I,w',p,k,u⟩:=h.CN (P:=P) t j o.type i q hi hz B r e m A G D;obtain⟨c,d,b,H,_⟩:=k.cy;unfold Oper.wp;simp[execOp,n,resolve,invoke,builtin,F,hx,p,Result.andThen];subst H;exact C _ _ (z _ _ _ w' k u)
theorem gL {c:Sort _}(a:c):∃b,a=b:=⟨a,rfl⟩
theorem exh {c:Sort _}(a:c):∃b,Hid (a=b):=⟨a,rfl⟩
theorem cm {P:Program}{f:FuncId}{a:Array Value}{w:World}{v:Ending}{R:World->Prop}{Q:Ending->World->Prop}(h:Calls P f a w (fun e w'=>e=v/\R w'))(k:∀w',R w'->Q v w'):Calls P f a w Q:=h.mono (by rintro e w' ⟨c,b⟩;rw[c];exact k _ b)
theorem cm0 {P:Program}{f:FuncId}{a:Array Value}{w:World}{v:Ending}{Q:Ending->World->Prop}(h:Calls P f a w (fun e w'=>e=v/\w=w'))(k:Q v w):Calls P f a w Q:=h.mono (by rintro e w' ⟨c,b⟩;rw[c,<-b];exact k)
theorem ag.at_ {c:World}{k:Nat}{t:TypeId}{b:Array Value}(hz:c.heap.size=k):ag (c.alloc (.cells b t)) k t b:=hz▸ag.new c t b
def rf (w:World)(B:Nat)(v:Value)(l:List bj):Prop:=∃A cap,v= .slice A l.length cap/\l.length<=cap/\cap<=9223372036854775807/\∀j (h:j<l.length),∃g o,A=some ⟨g,o,none⟩/\g<B/\(w,g,o+j*3,Value.int .u64 l[j].id)/\(w,g,o+j*3+1,Value.string l[j].name)/\(w,g,o+j*3+2,Value.string l[j].ty)
theorem rf.ah {w:World}{d:Nat}{l:List bj}(h:rf w B v l)(x:B<=d)(b:∀p:Addr,p.block<B->w'.cell? p=w.cell? p):rf w' d v l:=by
 obtain⟨A,cap,q,e,r,u⟩:=h;refine⟨A,cap,q,e,r,fun j k=> ?_⟩;obtain⟨g,o,m,c,n,s,i⟩:=u j k;exact⟨g,o,m,by omega,(b _ c).trans n,(b _ c).trans s,(b _ c).trans i⟩
theorem rf.below {w:World}{l:List bj}(h:rf w B v l)(b:Below B w w'):rf w' B v l:=h.ah (zd _) (fun _ c=>b.cell c)
theorem rf.mono {w:World}{b:Nat}{l:List bj}(h:rf w B v l)(c:B<=b):rf w b v l:=h.ah c (fun _ _=>rfl)
theorem rf.cy {w:World}{l:List bj}(h:rf w B v l):∃A n cap,v= .slice A n cap/\Hid (n=l.length)/\n<=cap/\cap<=9223372036854775807:=by
 obtain⟨A,cap,c,b,d,_⟩:=h;exact⟨A,_,cap,c,za rfl,b,d⟩
theorem rf.at_ {w:World}{l:List bj}(h:rf w B (.slice A n cap) l)(b:j<l.length):∃g o,A=some ⟨g,o,none⟩/\g<B/\(w,g,o+j*3,Value.int .u64 l[j].id)/\(w,g,o+j*3+1,Value.string l[j].name)/\(w,g,o+j*3+2,Value.string l[j].ty):=by
 obtain⟨i,k,c,e,m,d⟩:=h;injection c with hA _ _;subst hA;exact d j b
theorem rf.nil (w:World)(B:Nat):rf w B nS []:=⟨none,0,rfl,by simp,by simp,fun j b=>by simp at b⟩
theorem BV (n:Nat):(madeCells #[Value.int .u8 0] n).toList=cb (List.replicate n 0):=by
 have:=u9 n;rw[xG]at this;exact this
theorem Mt (n:Nat):(madeCells #[Value.int .u8 0] n).size=n:=by
 have:=yp List.length (BV n);rw[aO,xz]at this;simpa using this
theorem l5 {P:Program}(w:World){rest:List Oper}{o:Oper}{a:Act}
 (r:o.guard=none) (l c:Operand) (t:TypeId) (B:o.op=Op.makeSlice t l c)
 (base:Nat) (e:TypeId) (i:TypeInfo) (s:P.underlying t=some (.slice e)) (hi:P.info? e=some i) (hz:i.zero=some (.int .u8 0)) (x:i.size=1) (y:i.bytes=1)
 (h d:IntKind) (m n:Nat) (u:a.eval l= .int h (m:Int)) (A:a.eval c= .int d (n:Int)) (p:m<=n) (D:n<=281474976710656) (b:base<=w.heap.size)
 (C:∀w',bP w' base e (.slice (some (w.heap.size,0)) m n) (List.replicate m 0)->Kept e base w w'->Below w.heap.size w w'->wpList P ops Q rest (a.put o.dst (.slice (some (w.heap.size,0)) m n)) w'):
 wpList P ops Q (o::rest) a w:=by
 refine Ye r fun K z=> ?_
 have j:=run_make (P:=P) w t e i (.int .u8 0) s hi hz h d m n (by omega) (by omega) (by rw[y];omega) (by omega);simp only[Int.toNat_natCast,x,xG]at j;have q:bP (w.alloc (.cells (madeCells #[Value.int .u8 0] n) e)) base e (.slice (some (w.heap.size,0)) m n) (List.replicate m 0):=by
  refine⟨some (w.heap.size,0),n,by rw[xz],by rw[xz];exact p,by omega,.inr ⟨w.heap.size,madeCells #[Value.int .u8 0] n,(0,0),rfl,b,yM w _,Mt n, ?_,.inl rfl⟩⟩;rw[xz,BV,<-S5,List.take_replicate,yG p]
 have k:Below w.heap.size w (w.alloc (.cells (madeCells #[Value.int .u8 0] n) e)):=(zm _ w).alloc (zd _) _;unfold Oper.wp;simp[execOp,B,u,A,j,Result.andThen];exact z _ _ (C _ q (Kept.ai k (zd _) b) k)
def fB (L:List UInt8)(a b:Nat):Prop:=L[a]?=L[b]?/\L[a+1]?=L[b+1]?/\L[a+2]?=L[b+2]?/\L[a+3]?=L[b+3]?
instance (L :List UInt8)(a b:Nat):Decidable (fB L a b):=by unfold fB;infer_instance
theorem fB.symm {L:List UInt8}{a b:Nat}(h:fB L a b):fB L b a:=⟨h.1.symm,h.2.1.symm,h.2.2.1.symm,h.2.2.2.symm⟩
theorem fB.trans {L:List UInt8}{a b c:Nat}(h:fB L a b)(k:fB L b c):fB L a c:=⟨h.1.trans k.1,h.2.1.trans k.2.1,h.2.2.1.trans k.2.2.1,h.2.2.2.trans k.2.2.2⟩
def jF (L:List UInt8)(a:Nat):Nat->Option Nat
 |0=>none
 |n+1=>if n+4<=L.length/\fB L n a then some n else jF L a n
theorem mt4 (L:List UInt8)(j i:Nat)(h:j<i)(hi:i<=L.length):4<=mt L j i 64↔i+4<=L.length/\fB L j i:=by
 constructor
 ·intro d;have b:=(By L 64 j i).2 hi;exact⟨by omega,EG L 64 j i 0 (by omega),EG L 64 j i 1 (by omega),EG L 64 j i 2 (by omega),EG L 64 j i 3 (by omega)⟩
 rintro⟨b,g0,g1,g2,g3⟩;have c:mt L j i 64=mt L (j+4) (i+4) 60+4:=by
  rw[mt,zj ⟨by omega,g0⟩,mt,zj ⟨by omega,g1⟩,mt,zj ⟨by omega,g2⟩,mt,zj ⟨by omega,g3⟩]
 omega
theorem vF (L:List UInt8)(i:Nat)(hi:i<=L.length)(h:¬i+4<=L.length):∀k,k<=i->Ia L i k=none:=by
 intro k;induction k with
 |zero=>intro _;rfl
 |succ k ih=>
  intro c;rw[Ia,zi (by rw[mt4 L k i (by omega) hi];exact fun b=>h b.1)];exact ih (by omega)
theorem Pn (L:List UInt8)(i:Nat)(hi:i+4<=L.length):∀k,k<=i->Ia L i k=jF L i k:=by
 intro k;induction k with
 |zero=>intro _;rfl
 |succ k ih=>
  intro c;rw[Ia,jF,ih (by omega)];by_cases h:fB L k i
  ·rw[zj ((mt4 L k i (by omega) (by omega)).2 ⟨hi,h⟩),zj ⟨by omega,h⟩]
  rw[zi (fun b=>h ((mt4 L k i (by omega) (by omega)).1 b).2),zi (fun b=>h b.2)]
theorem Po (L:List UInt8)(a:Nat):∀n j,jF L a n=some j->j<n:=by
 intro n;induction n with
 |zero=>intro j h;simp[jF]at h
 |succ n ih=>
  intro j h;rw[jF]at h;split at h
  ·injection h with h;omega
  have:=ih j h;omega
theorem ID (L:List UInt8)(a n:Nat)(h:n+4<=L.length)(b:fB L n a):jF L a (n+1)=some n:=by rw[jF,zj ⟨h,b⟩]
theorem sQ (L:List UInt8)(a n:Nat)(h:¬(n+4<=L.length/\fB L n a)):jF L a (n+1)=jF L a n:=by rw[jF,zi h]
def pc (c:aM)(l:List bj)(x:iZ)(way:ByteArray)(got sent:List Ms)(N:Nat):Prop:=∃P m,oW (aQ c l) x P got/\split (aQ c l) (P++way)=(sent,ByteArray.empty,m,0)/\P.size+way.size<=N/\x.told=got.length
theorem pc.new {c:aM}(b:c.right=true)(l:List bj):pc c l iZ.new ByteArray.empty [] [] 0:=
 ⟨ByteArray.empty,0,oW.new (du c l) (nT b l),by rw[iI,dm (du c l) (nT b l)],zd _,rfl⟩
theorem BW (a b c:ByteArray):a++b++c=a++(b++c):=aF (by simp only[aW,zC])
theorem Pp (a:ByteArray):ByteArray.empty++a=a:=aF (by rw[aW];rfl)
theorem pc.send {c:aM}{l:List bj}{got sent:List Ms}(h:pc c l F way got sent N)(i:c.right=true)(d:cn c l)(hid:Mq l)(o:(bA c l nm x).2=0)(hz:x.fy.length<18446744073709551616):
 ∃y,pc c l F (way++(bA c l nm x).1) got (sent++ [⟨nm,y⟩]) (N+(bA c l nm x).1.size)/\(c.fm≠1->y=x):=by
 obtain⟨P,m,j,b,q,e⟩:=h;obtain⟨y,k,_,n,p,_⟩:=Fp i d hid o hz;refine⟨y,⟨P,m+k,j, ?_,by rw[bT];omega,e⟩,p⟩;rw[<-BW,lA (du c l) _ _ (by rw[b]),b];simp only;rw[Pp,n]
theorem Tr (s:ByteArray)(n:Nat)(h:n<=s.size):s.extract 0 n++s.extract n s.size=s:=by
 apply aF;rw[aW,aq,aq,cP];simp only[zL];exact zH n s.data.toList
theorem pc.move {c:aM}{l:List bj}{got sent:List Ms}(h:pc c l F way got sent N)(n:Nat)(p:n<=way.size):
 (kK (aQ c l) F (way.extract 0 n)).2.2=0/\pc c l (kK (aQ c l) F (way.extract 0 n)).1 (way.extract n way.size) (got++(kK (aQ c l) F (way.extract 0 n)).2.1) sent N/\got.length+(kK (aQ c l) F (way.extract 0 n)).2.1.length<=sent.length:=by
 obtain⟨P,m,j,b,q,o⟩:=h;obtain⟨d,a2,a3,a4⟩:=j.kK (du c l) (way.extract 0 n);have e:P++way.extract 0 n++way.extract n way.size=P++way:=by rw[BW,Tr _ _ p]
 have i:(split (aQ c l) (P++way.extract 0 n)).2.2.2=0:=by
  have:=oV (du c l) (P++way.extract 0 n) (way.extract n way.size);rw[e,b]at this;by_cases hz:(split (aQ c l) (P++way.extract 0 n)).2.2.2=0
  ·exact hz
  rw[zi hz]at this;have:=yp (fun z=>z.2.2.2) this;exact this.symm
 have k:(split (aQ c l) (P++way.extract 0 n)).1.length<=sent.length:=by
  have:=yp (fun z=>z.1.length) (lA (du c l) (P++way.extract 0 n) (way.extract n way.size) i);rw[e,b]at this;simp only[zk]at this;omega
 rw[<-a2,zk]at k;rw[i]at d;refine⟨d,⟨P++way.extract 0 n,m,a4 d,by rw[e];exact b, ?_, ?_⟩,k⟩
 ·rw[bT,ar _ _ _ (by omega),ar _ _ _ (zd _)];omega
 rw[hZ j.fault];simp only[zk];rw[o]
theorem pc.buf {c:aM}{l:List bj}{got sent:List Ms}(h:pc c l F way got sent N):F.buf.size+way.size<=N/\F.told<=N/\F.fault=0:=by
 obtain⟨P,m,b,e,j,i⟩:=h;have:=IC c l P;have d:=Pm c l P;rw[<-b.buf]at this;rw[<-b.told]at d;exact⟨by omega,by omega,b.fault⟩
theorem pc.done {c:aM}{l:List bj}{got sent:List Ms}(h:pc c l F ByteArray.empty got sent N):got=sent/\F.buf=ByteArray.empty/\F.fault=0:=by
 obtain⟨P,m,d,e,_⟩:=h;rw[iI]at e;have a:=d.told;have b:=d.buf;rw[e]at a b;exact⟨a,b,d.fault⟩
theorem Kx {e:Type}{b:Nx e}{P:e->Prop}(d:∀s,(b s).1=0->P (b s).2.1):∀(f:Nat) (s:ByteArray),∀m∈(Ve b f s).1,P m
 |0,_,m,h=>by cases h
 |f+1,s,m,h=>by
  unfold Ve at h;by_cases c:(b s).1=0
  ·rw[zj c]at h;rcases yI.1 h with rfl|h
   ·exact d s c
   exact Kx d f _ m h
  rw[zi c]at h;cases h
theorem Fq (h:dZ t x=0):x.may=true:=((rK t x).1 h).2.1
theorem Mu {c:aM}{l:List bj}(h:(bB c l nm x).2=0):x.may=true:=by
 obtain⟨e,j,b,k⟩:=kS h;by_cases i:c.fm=1
 ·unfold bS lZ at b;rw[zj i]at b;by_cases d:il e.shape x c.it=0
  ·exact Fq (rI d).2.1
  rw[zi d]at b;exact absurd b d
 unfold bS gq at b;rw[zi i]at b;simp only at b;by_cases d:dZ e.shape x=0
 ·exact Fq d
 rw[zj d]at b;exact absurd b d
theorem WQ {c:aM}{l:List bj}(d:cn c l)(s:ByteArray)(h:(aQ c l s).1=0):(aQ c l s).2.1.x.may=true:=by
 obtain⟨e,b⟩:=BT h;rw[qk e];exact Mu (by rw[vE d b])
theorem pc.may {c:aM}{l:List bj}{got sent:List Ms}(h:pc c l F way got sent N)(b:cn c l):∀m∈got,m.x.may=true:=by
 obtain⟨P,m,d,_⟩:=h;rw[d.told];exact Kx (WQ b) _ _
