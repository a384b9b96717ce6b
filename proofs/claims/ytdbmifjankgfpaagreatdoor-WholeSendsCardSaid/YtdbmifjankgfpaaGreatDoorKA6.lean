/- Values as trees: plain laws. No program in sight. -/
import Derived.Test.YtdbmifjankgfpaaGreatDoorKA5
import Derived.Deep.OwnRows
set_option linter.all false
open Go.Proofs.Tryz
namespace Go.Proofs.YtdbmifjankgfpaaGreatDoor
variable {B j i n o e cap:Nat}{w':World}{v a:Value}{x:It}{nm s:ByteArray}{l:List ByteArray}{A:Option Addr}{f:Fr}{t:Ty}{ops:Array Oper}{rest:List Oper}{Q:Exit->Act->World->Prop}
def zu:=@decide_eq_false
def yg:=@Option.some.inj
def yW:=@wpList_append_lies
def xd:=@List.mem_singleton
def xj:=@List.mem_of_getElem?
def xJ:=@List.getElem_append_left
def xS:=@MapKept.run_getObj_map
def xW:=@run_underlying
def Zb:=@MapKept.run_checkKey
def Zd:=@List.mem_of_find?_eq_some
def Ze:=@MapKept.run_findKey
def Zw:=@List.any_eq_true
def ZF:=@List.mem_append
def ZR:=@List.find?_eq_none
def Z0:=@List.any_eq_false
def Yn:=@List.find?_some
theorem Fk (b n:Nat)(h:n<18446744073709551616):(cJ b n).length<=9:=by
 rw[eB];have:=gw 8 n (by simpa using h);split<;>omega
theorem IB (s:List It)(b:∀x∈s,x.total+9*x.count<1099511627776->x.fO.length<=x.total+9*x.count):lO s+9*ay s<1099511627776->(fy s).length<=lO s+9*ay s:=by
 induction s with
 |nil=>simp[fy]
 |cons x xs GC=>
  intro h;simp only[lO,ay]at h;have d:=b x (by simp) (by omega);have e:=GC (fun y c=>b y (by simp[c])) (by omega);simp only[fy,lO,ay,zj];omega
theorem MQ (x:It):x.total+9*x.count<1099511627776->x.fO.length<=x.total+9*x.count:=by
 induction x using It.ind with
 |h t l s ih=>
  intro h;simp only[It.total,It.count]at h;have c:=IB s ih (by omega);rw[It.fO];simp only[It.total,It.count];by_cases b:l=true
  ·rw[zi b,zj];have:=Fk 192 (fy s).length (by omega);omega
  rw[zh b];split
  ·have:t.data.toList.length=t.size:=aa t;omega
  rw[zj];have:=Fk 128 t.size (by omega);have:t.data.toList.length=t.size:=aa t;omega
theorem MR (x:It)(h:x.qd=false):x.fO.length<=20000:=by
 have c:=sF x h;have d:=Ii x;simp only[It.qd,ZC,yX]at h;have b:=MQ x (by omega);omega
def lR (D M:Int)(s:ByteArray):Int:=if(bq D M s 1 0).e≠0 then(bq D M s 1 0).e else if(bq D M s 1 0).size<s.size then 3 else 0
def iY (D M:Int)(s:ByteArray):It:=if lR D M s≠0 then jk else(bq D M s 1 0).x
theorem BU (x:It):x.may=true↔x.right=true/\x.deep<=16/\x.count<=1024:=by
 simp only[It.may,zz,zY,and_assoc]
theorem pb (x:It)(D M:Int):fD x D M=0↔x.may=true/\(x.deep:Int)<=D/\(x.count:Int)<=M:=by
 unfold fD;cases x.may<;>simp
 split
 ·simp;omega
 split
 ·simp;omega
 simp;omega
theorem PO (D M:Int)(x:It)(h:fD x D M=0)(s:ByteArray)(d:s.data.toList=x.fO)(hz:s.size<18446744073709551616):lR D M s=0/\iY D M s=x:=by
 rw[pb,BU]at h;obtain⟨⟨e,l,m⟩,i,j⟩:=h;have b:=TH D M x s [] 1 0 (by simpa using d) hz e (by omega) (by omega) (by omega) (by omega);have k:s.size=x.fO.length:=by rw[<-d,aa]
 have c:lR D M s=0:=by
  unfold lR;rw[b];simp;omega
 refine⟨c, ?_⟩;unfold iY;rw[zh (by simp[c]),b]
theorem PQ (D M:Int)(s:ByteArray)(h:lR D M s=0):fD (iY D M s) D M=0/\(iY D M s).fO=s.data.toList:=by
 have hx:iY D M s=(bq D M s 1 0).x:=by unfold iY;rw[zh (by simp[h])]
 rw[hx];unfold lR at h;have b:=(TG D M s.size).1 s 1 0 (zg _);generalize bq D M s 1 0=R at*;by_cases c:R.e≠0
 ·rw[zi c]at h;exact absurd h c
 rw[zh c]at h;have b:=b (zH.1 c);have d:¬R.size<s.size:=by intro d;rw[zi d]at h;simp at h
 have j:s.data.toList.length=s.size:=aa s;refine⟨?_, ?_⟩
 ·rw[pb,BU];have i:=b.deepD;have e:=b.deep16;have a3:=b.manyM;have a4:=b.many;exact⟨⟨b.right,by omega,by omega⟩,by omega,by omega⟩
 rw[b.fO,zv (by omega)]
theorem BV (ty:Ty)(x:It):cU ty x=0↔ty.may=true/\x.may=true/\x.cI ty=true:=by
 unfold cU;cases ty.may<;>cases x.may<;>cases x.cI ty<;>simp
def eJ (ty:Ty)(x:It)(D M:Int):Int:=if cU ty x≠0 then cU ty x else fD x D M
def kn (ty:Ty)(s:ByteArray)(D M:Int):Int:=if ty.may=false then 1 else if lR D M s≠0 then lR D M s else cU ty (iY D M s)
def qw (ty:Ty)(s:ByteArray)(D M:Int):It:=if kn ty s D M≠0 then jk else iY D M s
theorem lS (ty:Ty)(x:It)(D M:Int):eJ ty x D M=0↔cU ty x=0/\fD x D M=0:=by
 unfold eJ;split<;>simp_all
theorem pc (ty:Ty)(s:ByteArray)(D M:Int):kn ty s D M=0↔ty.may=true/\lR D M s=0/\cU ty (iY D M s)=0:=by
 unfold kn;cases ty.may
 ·simp
 simp only[Bool.true_eq_false,xM,true_and];split<;>simp_all
theorem CU (ty:Ty)(x:It)(D M:Int)(h:eJ ty x D M=0)(s:ByteArray)(b:s.data.toList=x.fO)(hz:s.size<18446744073709551616):kn ty s D M=0/\iY D M s=x:=by
 rw[lS]at h;obtain⟨d,c⟩:=PO D M x h.2 s b hz;rw[pc,c];exact⟨⟨((BV ty x).1 h.1).1,d,h.1⟩,rfl⟩
theorem CV (ty:Ty)(s:ByteArray)(D M:Int)(h:kn ty s D M=0):eJ ty (iY D M s) D M=0/\(iY D M s).fO=s.data.toList:=by
 rw[pc]at h;obtain⟨c,b⟩:=PQ D M s h.2.1;rw[lS];exact⟨⟨h.2.2,c⟩,b⟩
structure bz where
 id:Nat
 name:ByteArray
 ty:ByteArray
def bz.shape (e:bz):Ty:=(cT e.ty.data.toList).getD (.mk 0 0 [] 0)
def gD (c:aP)(seen:List bz)(e:bz):Int:=
 if bZ e.name=false then 11 else if(seen.any fun x=>decide (x.name=e.name))=true then 11 else if(seen.any fun x=>decide (x.id=e.id))=true then 1
 else if cT e.ty.data.toList=none then 3 else if c.fm=1/\e.shape.flat=false then 12 else 0
def jf (c:aP):List bz->List bz->Int
 |_,[]=>0
 |seen,e::r=>if gD c seen e≠0 then gD c seen e else jf c (seen++ [e]) r
def nh (c:aP)(l:List bz):Int:=if c.right=false then 1 else if 32<l.length then 4 else jf c [] l
def dw (l:List bz)(nm:ByteArray):Option bz:=l.find? fun e=>decide (e.name=nm)
def mC (c:aP)(f:Fr)(e:bz):Bool:=(decide (c.fm=1)&&decide (f.nm=e.name)&&decide (f.id=0))||(decide (c.fm≠1)&&decide (f.id=e.id)&&decide (f.nm.size=0))
def fS (c:aP)(l:List bz)(f:Fr):Option bz:=l.find? (mC c f)
def bE (c:aP)(t:Ty)(x:It):ByteArray×Int:=if c.fm=1 then lh t x c.it else(if eJ t x c.de c.it=0 then⟨x.fO.toArray⟩else⟨#[]⟩,eJ t x c.de c.it)
def dG (c:aP)(t:Ty)(s:ByteArray):Int×It:=if c.fm=1 then jH t s c.it else(kn t s c.de c.it,qw t s c.de c.it)
def bc (c:aP)(l:List bz)(nm:ByteArray)(x:It):Fr×Int:=match dw l nm with
 |none=>(mQ,11)
 |some e=>if(bE c e.shape x).2≠0 then(mQ,(bE c e.shape x).2)else if c.fm=1 then(⟨0,e.name,(bE c e.shape x).1⟩,0)else(⟨e.id,ByteArray.empty,(bE c e.shape x).1⟩,0)
structure Ms where
 name:ByteArray
 x:It
def rI :Ms:=⟨ByteArray.empty,jk⟩
def fc (c:aP)(l:List bz)(f:Fr):Int×Ms:=match fS c l f with
 |none=>(11,rI)
 |some e=>if(dG c e.shape f.body).1=0 then(0,⟨e.name,(dG c e.shape f.body).2⟩)else if(dG c e.shape f.body).1=2 then(3,rI)else((dG c e.shape f.body).1,rI)
structure cK (c:aP)(l:List bz):Prop where
 may:∀e∈l,bZ e.name=true
 ty:∀e∈l,cT e.ty.data.toList=some e.shape
 flat:c.fm=1->∀e∈l,e.shape.flat=true
 names:∀i j (hi:i<l.length) (hj:j<l.length),l[i].name=l[j].name->i=j
 ids:∀i j (hi:i<l.length) (hj:j<l.length),l[i].id=l[j].id->i=j
theorem cK.nil (c:aP):cK c []:=⟨by simp,by simp,by simp,by simp,by simp⟩
theorem BW {c:aP}{seen:List bz}{e:bz}(h:gD c seen e=0):bZ e.name=true/\(∀x∈seen,x.name≠e.name)/\(∀x∈seen,x.id≠e.id)/\cT e.ty.data.toList=some e.shape/\(c.fm=1->e.shape.flat=true):=by
 unfold gD at h;by_cases d:bZ e.name=false
 ·rw[zi d]at h;cases h
 rw[zh d]at h;by_cases i:(seen.any fun x=>decide (x.name=e.name))=true
 ·rw[zi i]at h;cases h
 rw[zh i]at h;by_cases k:(seen.any fun x=>decide (x.id=e.id))=true
 ·rw[zi k]at h;cases h
 rw[zh k]at h;by_cases b:cT e.ty.data.toList=none
 ·rw[zi b]at h;cases h
 rw[zh b]at h;by_cases l:c.fm=1/\e.shape.flat=false
 ·rw[zi l]at h;cases h
 refine⟨by simpa using d,fun x hx j=>i (Zw.2 ⟨x,hx,zD j⟩),fun x hx j=>k (Zw.2 ⟨x,hx,zD j⟩), ?_,fun n=> ?_⟩
 ·obtain⟨t,m⟩:=Option.ne_none_iff_exists'.1 b;unfold bz.shape;rw[m];rfl
 cases hf:e.shape.flat with
 |true=>rfl
 |false=>exact absurd ⟨n,hf⟩ l
theorem cK.snoc {c:aP}{l:List bz}{e:bz}(h:cK c l)(w:gD c l e=0):cK c (l++ [e]):=by
 obtain⟨s,u,z,q,r⟩:=BW w;have key:∀{n:Type} (f:bz->n),(∀x∈l,f x≠f e)->(∀i j (hi:i<l.length) (k:j<l.length),f l[i]=f l[j]->i=j)->∀i j (hi:i<(l++ [e]).length) (k:j<(l++ [e]).length),f (l++ [e])[i]=f (l++ [e])[j]->i=j:=by
  intro n f o y i j hi k b;simp only[zj,yL]at hi k;by_cases m:i<l.length
  ·rw[xJ m]at b;by_cases d:j<l.length
   ·rw[xJ d]at b;exact y i j m d b
   obtain rfl:j=l.length:=by omega
   rw[List.getElem_concat_length rfl]at b;exact absurd b (o _ (zE m))
  obtain rfl:i=l.length:=by omega
  rw[List.getElem_concat_length rfl]at b;by_cases d:j<l.length
  ·rw[xJ d]at b;exact absurd b.symm (o _ (zE d))
  omega
 refine⟨fun x hx=> ?_,fun x hx=> ?_,fun p x hx=> ?_,key (·.name) u h.names,key (·.id) z h.ids⟩
 ·rcases ZF.1 hx with hx|hx
  ·exact h.may x hx
  obtain rfl:=xd.1 hx;exact s
 ·rcases ZF.1 hx with hx|hx
  ·exact h.ty x hx
  obtain rfl:=xd.1 hx;exact q
 rcases ZF.1 hx with hx|hx
 ·exact h.flat p x hx
 obtain rfl:=xd.1 hx;exact r p
theorem Fl {c:aP}:∀(r seen:List bz),cK c seen->jf c seen r=0->cK c (seen++r)
 | [],seen,h,_=>by simpa using h
 |e::r,seen,h,hz=>by
  rw[jf]at hz;by_cases he:gD c seen e=0
  ·rw[zh (by simp[he])]at hz;have:=Fl r (seen++ [e]) (h.snoc he) hz;rwa [zB,Zs]at this
  rw[zi he]at hz;exact absurd hz he
theorem PR {c:aP}{l:List bz}(h:nh c l=0):c.right=true/\l.length<=32/\cK c l:=by
 unfold nh at h;cases hr:c.right with
 |false=>rw[zi hr]at h;cases h
 |true=>
  rw[zh (by simp[hr])]at h;by_cases b:32<l.length
  ·rw[zi b]at h;cases h
  rw[zh b]at h;exact⟨rfl,by omega,by simpa using Fl l [] (cK.nil c) h⟩
open Go.RowKit
def mE :List (Value×Value)->Nat->List MapEntry
 | [],_=> []
 |x::xs,b=>⟨x.1,x.2,b⟩::mE xs (b+1)
theorem BX :∀(l m:List (Value×Value)) (b:Nat),mE (l++m) b=mE l b++mE m (b+l.length)
 | [],m,b=>by simp[mE]
 |x::xs,m,b=>by simp only[zP,mE,BX xs m,zy];rw[show b+1+xs.length=b+(xs.length+1)from by omega]
theorem KJ :∀(l:List (Value×Value)) (b j:Nat),(mE l b)[j]?=(l[j]?).map fun x=>⟨x.1,x.2,b+j⟩
 | [],b,j=>by simp[mE]
 |x::xs,b,0=>by simp[mE]
 |x::xs,b,j+1=>by simp only[mE,List.getElem?_cons_succ,KJ xs];rw[show b+1+j=b+(j+1)from by omega]
theorem WY {l:List (Value×Value)}{b:Nat}{e:MapEntry}(h:e∈mE l b):∃x∈l,e.key=x.1/\e.val=x.2:=by
 obtain⟨j,c⟩:=List.getElem?_of_mem h;rw[KJ]at c;cases hl:l[j]? with
 |none=>rw[hl]at c;cases c
 |some x=>
  rw[hl]at c;injection c with c;subst c;exact⟨x,xj hl,rfl,rfl⟩
theorem KK {d:TypeDesc}{k:Value}(p:MapKept.IsKey d k)(l:List (Value×Value))(n:∀x∈l,MapKept.IsKey d x.1):
 (Instr.findNow d k (mE l 0) 0=some none/\∀x∈l,x.1≠k)\/∃j x,Instr.findNow d k (mE l 0) 0=some (some (j,x.2))/\l[j]?=some x/\x.1=k:=by
 rcases MapKept.findNow_spec p (mE l 0) 0 (fun e o=>by obtain⟨x,hx,c,_⟩:=WY o;rw[c];exact n x hx)with⟨c,b⟩|⟨j,e,c,b,h⟩
 ·refine .inl ⟨c,fun x hx=> ?_⟩;obtain⟨j,m⟩:=List.getElem?_of_mem hx;have h:=b ⟨x.1,x.2,0+j⟩ (xj (i:=j) (by rw[KJ,m];rfl));exact h
 rw[KJ]at b;cases JS:l[j]? with
 |none=>rw[JS]at b;cases b
 |some x=>
  rw[JS]at b;injection b with b;subst b;exact .inr ⟨j,x,by rw[c,zG],JS,h⟩
section
variable {P:Program} {w:World} {g c:Nat} {T K E:TypeId} {d:TypeDesc} {k:Value} {es:List MapEntry}
def jl (w:World)(g:Nat)(l:List (Value×Value)):Prop:=w.heap[g]?=some (.map (mE l 0).toArray l.length)
theorem jl.lt {l:List (Value×Value)}(h:jl w g l):g<w.heap.size:=yI h
theorem Fm {l:List (Value×Value)}(i:jl w g l)(c:P.underlying T=some (.map K E))(b:P.underlying K=some d)(e:MapKept.IsKey d k)(h:Instr.findNow d k (mE l 0) 0=some (some (j,v))):
 (Instr.lookup T (.map (some g)) k true).run P w= .ok (.tuple #[v,.bool true]) w:=by
 simp[Instr.lookup,xW c,xS i,Zb b e,Ze b h,Result.andThen]
theorem KM {l:List (Value×Value)}(e:jl w g l)(c:P.underlying T=some (.map K E))(b:P.underlying K=some d)(i:MapKept.IsKey d k)(h:Instr.findNow d k (mE l 0) 0=some none){z:Value}(hz:(zeroValue E).run P w= .ok z w):
 (Instr.lookup T (.map (some g)) k true).run P w= .ok (.tuple #[z,.bool false]) w:=by
 simp[Instr.lookup,xW c,xS e,Zb b i,Ze b h,Result.andThen,hz]
def oI (w:World)(g:Nat)(l:List (Value×Value))(k v:Value):World:={w with heap:=w.heap.setIfInBounds g (.map (mE (l++ [(k,v)]) 0).toArray (l.length+1))}
theorem KN {l:List (Value×Value)}(c:jl w g l)(e:P.underlying T=some (.map K E))(b:P.underlying K=some d)(i:MapKept.IsKey d k)(h:Instr.findNow d k (mE l 0) 0=some none)(v:Value):
 (Instr.mapUpdate T (.map (some g)) k v).run P w= .ok () (oI w g l k v):=by
 have j:(mE l 0).toArray.push ⟨k,v,l.length⟩=(mE (l++ [(k,v)]) 0).toArray:=by rw[BX];simp[mE]
 simp[Instr.mapUpdate,xW e,xS c,Zb b i,Ze b h,Result.andThen,MapKept.run_setObj_map _ c];unfold oI;rw[<-j];simp
theorem sS {l:List (Value×Value)}(b:jl w g l)(k v:Value):jl (oI w g l k v) g (l++ [(k,v)]):=by
 unfold jl oI;simp only[zj,yL];exact(MapKept.heap_set b).1
theorem vx (w:World)(g:Nat)(l:List (Value×Value))(k v:Value):ae [g] w (oI w g l k v):=
 ⟨rfl,rfl,rfl,by simp[oI],fun j _ c=>by
  have b:g≠j:=fun e=>c (by simp[e])
  show(w.heap.setIfInBounds g _)[j]?=_
  simp[b]⟩
theorem jl.only {l:List (Value×Value)}{L:List Nat}(h:jl w g l)(b:ae L w w')(c:g∉L):jl w' g l:=(b.block g h.lt c).trans h
theorem jl.below {l:List (Value×Value)}(h:jl w g l)(c:Below B w w')(b:g<B):jl w' g l:=(c.block g b).trans h
theorem jl.new (w:World):jl (w.alloc (.map #[] 0)) w.heap.size []:=yP w _
end
abbrev cg :=bz×Value
def AJ (l:List cg):List (Value×Value):=l.map fun r=>(.string r.1.name,r.2)
def AK (l:List cg):List (Value×Value):=l.map fun r=>(.int .u64 r.1.id,r.2)
def aK (l:List cg):List bz:=l.map (·.1)
theorem TJ (l:List cg):∀x∈AJ l,MapKept.IsKey .string x.1:=by
 intro x hx;obtain⟨r,_,rfl⟩:=xH.1 hx;simp[MapKept.IsKey]
theorem TK (l:List cg):∀x∈AK l,MapKept.IsKey (.int .u64) x.1:=by
 intro x hx;obtain⟨r,_,rfl⟩:=xH.1 hx;simp[MapKept.IsKey]
theorem jm {l:List bz}{p:bz->Bool}(h:∀e∈l,p e=false):l.find? p=none:=ZR.2 fun e b=>by simp[h e b]
theorem jn {l:List bz}{p:bz->Bool}{e:bz}(b:l[j]?=some e)(c:p e=true)(hu:∀i (x:bz),l[i]?=some x->p x=true->i=j):l.find? p=some e:=by
 cases h:l.find? p with
 |none=>exact absurd c (ZR.1 h e (xj b))
 |some x=>
  have hx:=Yn h;obtain⟨i,hi⟩:=List.getElem?_of_mem (Zd h);have:=hu i x hi hx;subst this;rw[hi]at b;exact b
theorem BY {l:List bz}{x:bz}(h:l[i]?=some x):∃hi:i<l.length,l[i]=x:=by
 obtain⟨hi,e⟩:=xB.1 h;exact⟨hi,e⟩
theorem BZ {c:aP}{l:List cg}(h:cK c (aK l))(nm:ByteArray):
 (Instr.findNow .string (.string nm) (mE (AJ l) 0) 0=some none/\dw (aK l) nm=none)\/∃(j:Nat) (r:cg),Instr.findNow .string (.string nm) (mE (AJ l) 0) 0=some (some (j,r.2))/\l[j]?=some r/\r.1.name=nm/\dw (aK l) nm=some r.1:=by
 rcases KK (d:= .string) (k:= .string nm) (by simp[MapKept.IsKey]) (AJ l) (TJ l)with⟨n,b⟩|⟨j,x,n,b,z⟩
 ·refine .inl ⟨n,jm fun e w=>zu fun m=> ?_⟩;obtain⟨r,u,rfl⟩:=xH.1 w;exact b (.string r.1.name,r.2) (xH.2 ⟨r,u,rfl⟩) (by rw[m])
 unfold AJ at b;rw[xV]at b;cases hl:l[j]? with
 |none=>rw[hl]at b;cases b
 |some r=>
  rw[hl]at b;injection b with b;subst b;have m:r.1.name=nm:=by injection z
  have o:(aK l)[j]?=some r.1:=by unfold aK;rw[xV,hl];rfl
  refine .inr ⟨j,r,n,hl,m,jn o (zD m) fun i x hi hx=> ?_⟩;obtain⟨p,y⟩:=BY hi;obtain⟨s,q⟩:=BY o;exact h.names i j p s (by rw[y,q,m];exact yf hx)
theorem KO {c:aP}{l:List cg}(h:cK c (aK l))(id:Nat)(p:bz->Bool)(o:∀e,p e=decide (e.id=id)):
 (Instr.findNow (.int .u64) (.int .u64 id) (mE (AK l) 0) 0=some none/\(aK l).find? p=none)\/∃(j:Nat) (r:cg),Instr.findNow (.int .u64) (.int .u64 id) (mE (AK l) 0) 0=some (some (j,r.2))/\l[j]?=some r/\r.1.id=id/\(aK l).find? p=some r.1:=by
 rcases KK (d:= .int .u64) (k:= .int .u64 id) (by simp[MapKept.IsKey]) (AK l) (TK l)with⟨n,b⟩|⟨j,x,n,b,s⟩
 ·refine .inl ⟨n,jm fun e A=>by
   rw[o];refine zu fun m=> ?_
   obtain⟨r,z,rfl⟩:=xH.1 A;exact b (.int .u64 r.1.id,r.2) (xH.2 ⟨r,z,rfl⟩) (by rw[m])⟩
 unfold AK at b;rw[xV]at b;cases hl:l[j]? with
 |none=>rw[hl]at b;cases b
 |some r=>
  rw[hl]at b;injection b with b;subst b;have m:r.1.id=id:=by injection s with _ s;omega
  have q:(aK l)[j]?=some r.1:=by unfold aK;rw[xV,hl];rfl
  refine .inr ⟨j,r,n,hl,m,jn q (by rw[o];exact zD m) fun i x hi hx=> ?_⟩;obtain⟨u,B⟩:=BY hi;obtain⟨y,w⟩:=BY q;rw[o]at hx;exact h.ids i j u y (by rw[B,w,m];exact yf hx)
theorem CW {c:aP}(h:c.fm=1)(l:List bz)(f:Fr):fS c l f=if f.id=0 then dw l f.nm else none:=by
 unfold fS dw;by_cases b:f.id=0
 ·rw[zi b];congr 1
  funext e
  simp[mC,h,b,eq_comm]
 rw[zh b];exact jm fun e _=>by simp[mC,h,b]
theorem IC {c:aP}(h:c.fm≠1)(l:List bz)(f:Fr)(b:f.nm.size≠0):fS c l f=none:=jm fun e _=>by simp[mC,h,b]
theorem TM {c:aP}(h:c.fm≠1)(f:Fr)(b:f.nm.size=0)(e:bz):mC c f e=decide (e.id=f.id):=by simp[mC,h,b,eq_comm]
theorem Fo {l:List bz}{p:bz->Bool}(h:l.find? p=none):l.any p=false:=Z0.2 fun e b=>by simpa using ZR.1 h e b
theorem Fp {l:List bz}{p:bz->Bool}{e:bz}(h:l.find? p=some e):l.any p=true:=Zw.2 ⟨e,Zd h,Yn h⟩
theorem gx {l:List bz}{e:bz}(h:dw l nm=some e):e∈l/\e.name=nm:=⟨Zd h,yf (Yn (p:=fun x:bz=>decide (x.name=nm)) h)⟩
theorem CX {c:aP}{l:List bz}{e:bz}(h:fS c l f=some e):e∈l/\mC c f e=true:=⟨Zd h,Yn h⟩
theorem MT {c:aP}{l:List bz}(h:cK c l){e:bz}(k:e∈l):dw l e.name=some e:=by
 obtain⟨j,b,rfl⟩:=yS k;refine jn (zx b) (zD rfl) fun i x hi hx=> ?_
 obtain⟨d,m⟩:=BY hi;exact h.names i j d b (by rw[m];exact yf hx)
theorem vy {c:aP}{l:List bz}(h:cK c l){e:bz}(q:e∈l)(b:mC c f e=true):fS c l f=some e:=by
 obtain⟨j,k,rfl⟩:=yS q;refine jn (zx k) b fun i x hi hx=> ?_
 obtain⟨o,p⟩:=BY hi;by_cases d:c.fm=1
 ·have n:f.nm=x.name:=by simp[mC,d]at hx;exact hx.1
  have m:f.nm=l[j].name:=by simp[mC,d]at b;exact b.1
  exact h.names i j o k (by rw[p,<-n,m])
 have n:f.id=x.id:=by simp[mC,d]at hx;exact hx.1
 have m:f.id=l[j].id:=by simp[mC,d]at b;exact b.1
 exact h.ids i j o k (by rw[p,<-n,m])
theorem AL (h:s.size=0):s=ByteArray.empty:=aF (by
 have:s.data.toList.length=0:=by rw[aa];exact h
 rw[zo this];rfl)
theorem MU {c:aP}(h:c.fm=1){e:bz}(d:mC c f e=true):f=⟨0,e.name,f.body⟩:=by
 obtain⟨i,n,b⟩:=f;simp[mC,h]at d;obtain⟨rfl,rfl⟩:=d;rfl
theorem ID {c:aP}(h:c.fm≠1){e:bz}(d:mC c f e=true):f=⟨e.id,ByteArray.empty,f.body⟩:=by
 obtain⟨i,n,b⟩:=f;simp[mC,h]at d;obtain⟨rfl,j⟩:=d;rw[show n=ByteArray.empty from by first|exact j|exact AL j]
theorem vz (x:It):(⟨x.fO.toArray⟩:ByteArray).data.toList=x.fO:=by simp
theorem oJ {l:List UInt8}(h:l=s.data.toList):(⟨l.toArray⟩:ByteArray)=s:=aF (by simp[h])
theorem rJ {c:aP}(b:c.fm≠1)(h:(bE c t x).2=0)(hz:x.fO.length<18446744073709551616):dG c t (bE c t x).1=(0,x)/\(bE c t x).1=⟨x.fO.toArray⟩:=by
 unfold bE at h⊢;rw[zh b]at h⊢;simp only at h⊢;rw[zi h];refine⟨?_,rfl⟩;obtain⟨d,a2⟩:=CU t x c.de c.it h ⟨x.fO.toArray⟩ (vz x) (by rw[<-aa,vz];exact hz);unfold dG;rw[zh b,d];unfold qw;rw[zh (by simp[d]),a2]
theorem MV {c:aP}(h:(dG c t s).1=0):bE c t (dG c t s).2=(s,0):=by
 unfold dG at h⊢;by_cases b:c.fm=1
 ·rw[zi b]at h⊢;obtain⟨d,a2⟩:=IA t s c.it h;unfold bE;rw[zi b];unfold lh;rw[zi d,oJ a2]
 rw[zh b]at h⊢;simp only at h⊢;obtain⟨d,a2⟩:=CV t s c.de c.it h;have e:qw t s c.de c.it=iY c.de c.it s:=by unfold qw;rw[zh (by simp[h])]
 rw[e];unfold bE;rw[zh b,zi d,d,oJ a2]
theorem lj {c:aP}{l:List bz}(h:(bc c l nm x).2=0):∃e,dw l nm=some e/\(bE c e.shape x).2=0/\(bc c l nm x).1=if c.fm=1 then⟨0,e.name,(bE c e.shape x).1⟩else⟨e.id,ByteArray.empty,(bE c e.shape x).1⟩:=by
 unfold bc at h⊢;cases hb:dw l nm with
 |none=>rw[hb]at h;cases h
 |some e=>
  rw[hb]at h;simp only at h⊢;by_cases b:(bE c e.shape x).2≠0
  ·rw[zi b]at h;exact absurd h b
  rw[zh b]at h⊢;exact⟨e,rfl,zH.1 b,by split<;>rfl⟩
theorem IE {c:aP}{l:List bz}(j:cK c l)(b:c.fm≠1)(h:(bc c l nm x).2=0)(hz:x.fO.length<18446744073709551616):fc c l (bc c l nm x).1=(0,⟨nm,x⟩):=by
 obtain⟨e,i,k,n⟩:=lj h;obtain⟨m,rfl⟩:=gx i;obtain⟨d,_⟩:=rJ b k hz;rw[n,zh b];unfold fc;rw[vy j m (by simp[mC,b])];simp only[d,xK]
theorem IF {c:aP}{l:List bz}(j:cK c l)(h:(fc c l f).1=0):bc c l (fc c l f).2.name (fc c l f).2.x=(f,0):=by
 unfold fc at h⊢;cases hb:fS c l f with
 |none=>rw[hb]at h;cases h
 |some e=>
  rw[hb]at h;simp only at h⊢;by_cases b:(dG c e.shape f.body).1=0
  ·rw[zi b]at h⊢;obtain⟨m,i⟩:=CX hb;have k:=MV b;simp only;unfold bc;rw[MT j m];simp only[k];rw[zh (by simp)];by_cases d:c.fm=1
   ·rw[zi d,<-MU d i]
   rw[zh d,<-ID d i]
  rw[zh b]at h;split at h
  ·cases h
  exact absurd h b
theorem MW (c:aP)(l:List bz)(f:Fr):(fc c l f).1≠2:=by
 unfold fc;split
 ·simp
 split
 ·simp
 split
 ·simp
 assumption
theorem B0 {c:aP}{l:List bz}(h:(bc c l nm x).2≠0):(bc c l nm x).1=mQ:=by
 unfold bc at h⊢;split
 ·rfl
 rename_i e d
 rw[d]at h;simp only at h⊢;by_cases b:(bE c e.shape x).2≠0
 ·rw[zi b]
 rw[zh b]at h;split at h<;>exact absurd rfl h
theorem KP {M:Int}:∀(b:List Ty) (s:List It) (m i n:Nat),(∀j (h:j<b.length),t.at (i+j)=b[j])->m<=s.length->s.length<=b.length->
 (∀j (c:j<s.length) (k:j<b.length),∀(n:Nat) (q:List UInt8),(n:Int)+(s[j]).count<=M->(b[j]).rd M n ((s[j]).lay (b[j])++q)=⟨0,s[j],n+(s[j]).count,q⟩)->(n:Int)+ay s<=M->
 (nV M b m n (cB s t i)).e=0/\(nV M b m n (cB s t i)).q= []
 | [],s,m,i,n,_,_,hs,_,_=>by
  obtain rfl:s= []:=zo (by simpa using hs);simp[nV,cB]
 |a::b,[],m,i,n,_,hm,_,_,_=>by
  have l:m=0:=by simpa using hm
  subst l;simp[nV,cB]
 |a::b,x::xs,m,i,n,ha,hm,hs,hf,hM=>by
  simp only[ay]at hM;have e:=ha 0 (by simp);rw[yU]at e;have hx:=hf 0 (by simp) (by simp) n (cB xs t (i+1)) (by simp only[yR];omega);simp only[yR]at hx e;rw[cB,e,nV,hx];by_cases d:m=0/\x.lay a++cB xs t (i+1)= []
  ·rw[zi d];exact⟨rfl,d.2⟩
  rw[zh d];simp only[ne_eq,yZ,xM];exact KP b xs (m-1) (i+1) (n+x.count) (fun j c=>by have:=ha (j+1) (by simpa using c);simpa[show i+(j+1)=i+1+j from by omega]using this) (by simp at hm;omega) (by simpa using hs)
   (fun j c k=>by have:=hf (j+1) (by simpa using c) (by simpa using k);simpa using this) (by omega)
theorem WZ (M:Int)(y:M<=1024)(x:It)(t:Ty)(n:Nat)(B:t.right=true)(e:cl t.sub=true)(hi:x.cI t=true)(hx:x.right=true)(c:(n:Int)+x.count<=M):(t.rd M n (x.lay t)).e=0/\(t.rd M n (x.lay t)).q= []:=by
 by_cases i:t.kind=5
 ·obtain⟨R,b,s⟩:=x;obtain⟨k,z,l,m⟩:=t;simp only[Ty.Kr]at i;subst i;obtain⟨N,J⟩:=iI B;obtain⟨O,F⟩:=mV hx;have L:=vr F;have E:¬M<=(n:Int):=by simp only[It.count]at c;omega
  simp only[It.cI,zz]at hi;obtain⟨o,K⟩:=hi;have C:=lg s _ 0 K;simp only[zG]at C;simp only[Ty.gI]at e;replace o:=qu o;obtain⟨rfl,H,W⟩:=o;have r:∀j (h:j<l.length),(Ty.mk 5 z l m).at (0+j)=l[j]:=fun j h=>by unfold Ty.at;simp[h]
  simp only[It.count]at c;rw[ng,uj E];exact KP (M:=M) (t:= .mk 5 z l m) l s ((l.length:Int)-m).toNat 0 (n+1) r (by omega) H (fun j u p n q G=>by
   have I:=zE u;have d:=C j u;have w:=r j p;rw[zG]at w;rw[w]at d;have A:=Ff e j p;have D:=dk J j p;generalize l[j]=a at*;obtain⟨U,S,al,at_⟩:=a;exact PG M y _ _ n q D (lQ A).2 (nf A d q) d (L _ I) G) (by omega)
 have:=PG M y x t n [] B e (fun h=>absurd h i) hi hx c;rw[yV]at this;rw[this];exact⟨rfl,rfl⟩
theorem MX (t:Ty)(x:It)(M:Int)(h:fI t x M=0)(s:ByteArray)(n:s.data.toList=x.lay t):(jH t s M).1=0:=by
 obtain⟨c,i,q⟩:=BS h;obtain⟨_,l,_,_,k⟩:=jI c;obtain⟨_,m,e⟩:=rG i;obtain⟨j,o,p⟩:=sR m;have b:=WZ (min M 1024) (by omega) x t 0 l k e j (by omega);rw[<-n]at b;change(oo t s M).e=0/\(oo t s M).q= []at b
 have d:dv t s M=(0,(oo t s M).x,s.size):=by unfold dv;rw[zh (by simp[c]),zh (by simp[b.1]),b.2];simp
 unfold jH;rw[d];simp
def aX (c:aP)(l:List bz)(s:ByteArray):Int×Ms×Nat×Nat:=
 if(a8 c s).1≠0 then((a8 c s).1,rI,(a8 c s).2.2.1,(a8 c s).2.2.2)else((fc c l (a8 c s).2.1).1,(fc c l (a8 c s).2.1).2,(a8 c s).2.2.1,(a8 c s).2.2.2)
theorem KQ {c:aP}{l:List bz}(h:(a8 c s).1≠0):aX c l s=((a8 c s).1,rI,(a8 c s).2.2.1,(a8 c s).2.2.2):=by unfold aX;rw[zi h]
theorem vA {c:aP}{l:List bz}(h:(a8 c s).1=0):aX c l s=((fc c l (a8 c s).2.1).1,(fc c l (a8 c s).2.1).2,(a8 c s).2.2.1,(a8 c s).2.2.2):=by unfold aX;rw[zh (by simp[h])]
theorem ni {c:aP}{l:List bz}:(aX c l s).1=2↔(a8 c s).1=2:=by
 by_cases h:(a8 c s).1=0
 ·rw[vA h,h];exact⟨fun b=>absurd b (MW _ _ _),(by intro h;cases h)⟩
 rw[KQ h]
theorem MZ {c:aP}{l:List bz}(h:(aX c l s).1=0):(a8 c s).1=0/\(fc c l (a8 c s).2.1).1=0:=by
 by_cases b:(a8 c s).1=0
 ·rw[vA b]at h;exact⟨b,h⟩
 rw[KQ b]at h;exact absurd h b
theorem lT (c:aP)(l:List bz)(s:ByteArray):(aX c l s).2.2=(a8 c s).2.2:=by unfold aX;split<;>rfl
theorem fT (c:aP)(l:List bz):kF (aX c l):=by
 have b:=vo c;refine⟨fun s h=> ?_,fun s t h=> ?_,fun s h=> ?_⟩
 ·have:=b.pos s (MZ h).1;rw[lT];exact this
 ·have e:=b.ext s t (fun d=>h (ni.2 d));unfold aX;rw[e]
 rw[lT];exact b.short s (ni.1 h)
theorem B3 {c:aP}(b:c.right=true)(l:List bz):(aX c l ByteArray.empty).1=2:=ni.2 (Iq b)
def bF (c:aP)(l:List bz)(nm:ByteArray)(x:It):ByteArray×Int:=if(bc c l nm x).2≠0 then(ByteArray.empty,(bc c l nm x).2)else eU c (bc c l nm x).1
theorem Fq {c:aP}{l:List bz}(h:(bF c l nm x).2=0):(bc c l nm x).2=0/\bF c l nm x=eU c (bc c l nm x).1:=by
 unfold bF at h⊢;by_cases b:(bc c l nm x).2≠0
 ·rw[zi b]at h;exact absurd h b
 rw[zh b];exact⟨zH.1 b,rfl⟩
theorem Fs {c:aP}(h:(eU c f).2≠0):(eU c f).1=ByteArray.empty:=by
 unfold eU at h⊢;split
 ·split
  ·rfl
  split
  ·rfl
  rename_i d b e
  rw[zi d,zh b,zh e]at h;exact absurd rfl h
 rfl
theorem M0 {c:aP}{l:List bz}(h:(bF c l nm x).2≠0):(bF c l nm x).1=ByteArray.empty:=by
 unfold bF at h⊢;by_cases b:(bc c l nm x).2≠0
 ·rw[zi b]
 rw[zh b]at h⊢;exact Fs h
def PT (l:List bz):Prop:=∀e∈l,e.id<18446744073709551616
theorem Ft {c:aP}{l:List bz}(hid:PT l)(h:(bc c l nm x).2=0):(bc c l nm x).1.id<18446744073709551616:=by
 obtain⟨e,b,_,d⟩:=lj h;rw[d];split
 ·simp
 exact hid e (gx b).1
theorem TN {c:aP}{l:List bz}(j:cK c l)(h:(bc c l nm x).2=0)(hz:x.fO.length<18446744073709551616):
 ∃y,fc c l (bc c l nm x).1=(0,⟨nm,y⟩)/\(c.fm≠1->y=x)/\bc c l nm y=((bc c l nm x).1,0):=by
 by_cases b:c.fm=1
 ·obtain⟨e,m,d,k⟩:=lj h;obtain⟨p,rfl⟩:=gx m;rw[zi b]at k;have n:fS c l (bc c l e.name x).1=some e:=vy j p (by rw[k];simp[mC,b]);have o:(dG c e.shape (bE c e.shape x).1).1=0:=by
   unfold bE at d⊢;rw[zi b]at d⊢;unfold dG;rw[zi b];unfold lh at d⊢;by_cases i:fI e.shape x c.it=0
   ·rw[zi i];exact MX e.shape x c.it i _ (by simp)
   rw[zh i]at d;exact absurd d i
  have hd:fc c l (bc c l e.name x).1=(0,⟨e.name,(dG c e.shape (bE c e.shape x).1).2⟩):=by
   unfold fc;rw[n];simp only[k,o,xK]
  refine⟨_,hd,fun h=>absurd b h, ?_⟩;have:=IF j (f:=(bc c l e.name x).1) (by rw[hd]);rw[hd]at this;exact this
 have hd:=IE j b h hz;refine⟨x,hd,fun _=>rfl,ZB rfl h⟩
theorem TO {c:aP}{l:List bz}(i:c.right=true)(n:cK c l)(hid:PT l)(h:(bF c l nm x).2=0)(hz:x.fO.length<18446744073709551616):
 ∃y k,(∀T,aX c l ((bF c l nm x).1++T)=(0,⟨nm,y⟩,(bF c l nm x).1.size,k))/\(c.fm≠1->y=x)/\bF c l nm y=bF c l nm x:=by
 obtain⟨d,m⟩:=Fq h;obtain⟨y,hd,o,q⟩:=TN n d hz;have r:eU c (bc c l nm x).1=((bF c l nm x).1,0):=by rw[<-m];exact ZB rfl h
 have p:=fun T=>(Px (Ft hid d) r T).1
 obtain⟨k,b⟩:=p ByteArray.empty;have j:∀T,a8 c ((bF c l nm x).1++T)=(0,(bc c l nm x).1,(bF c l nm x).1.size,k):=fun T=>by
  have e:=(vo c).ext (bF c l nm x).1 T (by rw[b8 i];rw[k9]at b;rw[b];simp);rw[e,b8 i];rw[k9]at b;exact b
 refine⟨y,k,fun T=> ?_,o, ?_⟩
 ·rw[vA (by rw[j]),j,hd]
 rw[m];unfold bF;rw[q,zh (by simp)]
theorem Fu {c:aP}{l:List bz}(d:c.right=true)(e:cK c l)(hid:PT l)(h:(bF c l nm x).2=0)(hz:x.fO.length<18446744073709551616):
 ∃y k,(∀T,split (aX c l) ((bF c l nm x).1++T)=(split (aX c l) T).cons ⟨nm,y⟩ k)/\split (aX c l) (bF c l nm x).1=([⟨nm,y⟩],ByteArray.empty,k,0)/\(c.fm≠1->y=x)/\bF c l nm y=bF c l nm x:=by
 obtain⟨y,k,b,i,j⟩:=TO d e hid h hz;have key:∀T,split (aX c l) ((bF c l nm x).1++T)=(split (aX c l) T).cons ⟨nm,y⟩ k:=fun T=>by
  rw[iD (fT c l) (by rw[b]),b];simp only;rw[Ko _ _ _ (zg _)];have:(bF c l nm x).1.extract (bF c l nm x).1.size (bF c l nm x).1.size++T=T:=by
   apply aF;rw[aU,ar,dq,zI (by rw[aa];exact zg _),yx]
  rw[this]
 refine⟨y,k,key, ?_,i,j⟩;have:=key ByteArray.empty;rw[k9,gh (fT c l) (B3 d l)]at this;rw[this];rfl
theorem B4 (c:aP)(s:ByteArray):(a8 c s).2.2.2<=65536:=by
 unfold a8;by_cases b:c.right=true
 ·rw[zi b];have:=(c.dj).1 b;unfold bp;split
  ·exact yh _
  split
  ·exact yh _
  show(aV c.fr c.un s).2.2.2.2<=65536
  rw[bO];split
  ·exact yh _
  split
  ·exact yh _
  split
  ·exact yh _
  rename_i h
  split
  ·show(aE (an c.fr s).2.2.1).1<=65536;omega
  show(aE (an c.fr s).2.2.1).1<=65536;omega
 rw[zh b];exact yh _
theorem IG (c:aP)(s:ByteArray)(h:s.size<=1099511627776):(a8 c s).2.1.body.size<=1099511627776:=by
 by_cases b:c.right=true
 ·have d:=(c.dj).1 b;rw[b8 b];have:=(MK c s).2;omega
 have e:a8 c s=(1,mQ,0,0):=by unfold a8;rw[zh b]
 rw[e];exact yh _
structure ko {α:Type}(nx:Nx α)(x:gE)(s:ByteArray)(l:List α):Prop where
 fault:x.fault=(split nx s).2.2.2
 told:l=(split nx s).1
 buf:x.fault=0->x.buf=(split nx s).2.1
theorem ko.new {b:Type}{nx:Nx b}(h:kF nx)(c:(nx ByteArray.empty).1=2):ko nx gE.new ByteArray.empty ([]:List b):=by
 have:=gh h c;exact⟨by rw[this];rfl,by rw[this],fun _=>by rw[this];rfl⟩
theorem ko.mN {c:Type}{nx:Nx c}(h:kF nx){x:gE}{l:List c}(hx:ko nx x s l)(t:ByteArray):ko nx (mN nx x t).1 (s++t) (l++(mN nx x t).2.1):=by
 by_cases b:x.fault=0
 ·have e:=uG h s t (by rw[<-hx.fault];exact b);rw[gj b,hx.buf b,hx.told];exact⟨by rw[e],by rw[e],fun _=>by rw[e]⟩
 have e:=oZ h s t;rw[zh (by rw[<-hx.fault];exact b)]at e;rw[eX b,hx.told];exact⟨by rw[e];exact hx.fault,by rw[e];simp,fun d=>absurd d b⟩
theorem ko.same {c:Type}{nx:Nx c}{x y:gE}{l m:List c}(hx:ko nx x s l)(b:ko nx y s m):l=m/\x.fault=y.fault/\(x.fault=0->x.buf=y.buf):=
 ⟨hx.told.trans b.told.symm,hx.fault.trans b.fault.symm,fun h=>(hx.buf h).trans (b.buf (by rw[b.fault,<-hx.fault];exact h)).symm⟩
theorem II (c:aP)(l:List bz)(s:ByteArray):(split (aX c l) s).1.length<=s.size:=by
 induction s using kX (fT c l)with
 |stop s h0=>rw[jB (fT c l),zh h0];simp
 |go s h0 ih=>
  obtain⟨d,b⟩:=(fT c l).pos s h0;have hz:(s.extract (aX c l s).2.2.1 s.size).size=s.size-(aX c l s).2.2.1:=aq _ _ _ (zg _);rw[iD (fT c l) h0];show(_::_).length<=_
  simp only[zy];omega
theorem IJ (c:aP)(l:List bz)(s:ByteArray):(split (aX c l) s).2.1.size<=s.size:=by
 obtain⟨k,b,e⟩:=tB (fT c l) s;rw[e,aq _ _ _ (zg _)];omega
theorem Xa (c:aP)(l:List bz)(s:ByteArray):(split (aX c l) s).2.2.1<=65536*(s.size+1):=by
 have h:=fT c l;have b:∀s,(aX c l s).2.2.2<=65536:=fun s=>by rw[lT];exact B4 c s
 induction s using kX h with
 |stop s h0=>
  rw[jB h,zh h0];have:=b s;show(aX c l s).2.2.2<=_
  omega
 |go s h0 ih=>
  rw[iD h h0];obtain⟨e,d⟩:=h.pos s h0;have i:=nQ s _ e d;have:=b s;show(aX c l s).2.2.2+(split (aX c l) (s.extract (aX c l s).2.2.1 s.size)).2.2.1<=_
  have:65536*((s.extract (aX c l s).2.2.1 s.size).size+1)<=65536*s.size:=Nat.mul_le_mul_left _ (by omega);omega
theorem lt_of_cell {w:World}{b:Nat}(h:w.cell? ⟨b,o,none⟩=some v):b<w.heap.size:=by
 rcases xG b w.heap.size with h'|h'
 ·exact h'
 simp[World.cell?,xT h']at h
mutual
def bT (w:World)(B:Nat):It->Value->Value->Value->Prop
 | .mk t l s,c0,c1,c2=>c0= .string t/\c1= .bool l/\t.size<=9223372036854775807/\s.length<=9223372036854775807/\∃A cap,c2= .slice A s.length cap/\s.length<=cap/\cap<=9223372036854775807/\ch w B s A 0
def ch (w:World)(B:Nat):List It->Option Addr->Nat->Prop
 | [],_,_=>True
 |x::xs,A,i=>(∃b o c0 c1 c2,A=some ⟨b,o,none⟩/\b<B/\w.cell? ⟨b,o+i*3,none⟩=some c0/\w.cell? ⟨b,o+i*3+1,none⟩=some c1/\w.cell? ⟨b,o+i*3+2,none⟩=some c2/\bT w B x c0 c1 c2)/\ch w B xs A (i+1)
end
theorem ch.at_ {w:World}:∀{s:List It} {i:Nat},ch w B s A i->∀(j:Nat) (h:j<s.length),∃b o c d e,A=some ⟨b,o,none⟩/\b<B/\w.cell? ⟨b,o+(i+j)*3,none⟩=some c/\w.cell? ⟨b,o+(i+j)*3+1,none⟩=some d/\w.cell? ⟨b,o+(i+j)*3+2,none⟩=some e/\bT w B s[j] c d e
 | [],_,_,j,h=>by simp at h
 |x::xs,i,hi,0,_=>by simpa[ch]using hi.1
 |x::xs,i,hi,j+1,h=>by
  have:=ch.at_ hi.2 j (by simpa using h);rw[show i+1+j=i+(j+1)from by omega]at this;simpa using this
theorem ch.Fv {w:World}:∀{s:List It} {i:Nat},(∀(j:Nat) (h:j<s.length),∃b o c d e,A=some ⟨b,o,none⟩/\b<B/\w.cell? ⟨b,o+(i+j)*3,none⟩=some c/\w.cell? ⟨b,o+(i+j)*3+1,none⟩=some d/\w.cell? ⟨b,o+(i+j)*3+2,none⟩=some e/\bT w B s[j] c d e)->ch w B s A i
 | [],_,_=>by simp[ch]
 |x::xs,i,h=>by
  refine⟨h 0 (Nat.zero_lt_succ _),ch.Fv fun j k=> ?_⟩;have:=h (j+1) (by simpa using k);rw[show i+(j+1)=i+1+j from by omega]at this;simpa using this
theorem bT.open_ {w:World}{b c d:Value}(h:bT w B x b c d):∃A cap,b= .string x.text/\c= .bool x.list/\d= .slice A x.sub.length cap/\x.text.size<=9223372036854775807/\x.sub.length<=cap/\cap<=9223372036854775807/\ch w B x.sub A 0:=by
 cases x with
 |mk t l s=>
  obtain⟨i,e,m,p,A,cap,j,n,k,o⟩:=h;exact⟨A,cap,i,e,j,m,n,k,o⟩
theorem bT.ag {w:World}(J:B<=n)(d:∀p:Addr,p.block<B->w'.cell? p=w.cell? p):∀(x:It) {i c e:Value},bT w B x i c e->bT w' n x i c e:=by
 intro x;induction x using It.ind with
 |h t l s ih=>
  intro i c e h;obtain⟨C,H,D,I,A,cap,u,G,F,E⟩:=h;refine⟨C,H,D,I,A,cap,u,G,F,ch.Fv fun j m=> ?_⟩;obtain⟨b,o,d0,d1,d2,q,k,r,y,z,hi⟩:=E.at_ j m;exact⟨b,o,d0,d1,d2,q,by omega,(d _ k).trans r,(d _ k).trans y,(d _ k).trans z,ih _ (zE m) hi⟩
theorem bT.below {w:World}{b c d:Value}(h:bT w B x b c d)(e:Below B w w'):bT w' B x b c d:=bT.ag (zg _) (fun _ i=>e.cell i) x h
theorem bT.mono {w:World}{b c d:Value}(h:bT w B x b c d)(i:B<=e):bT w e x b c d:=bT.ag i (fun _ _=>rfl) x h
theorem ch.below {w:World}{s:List It}(h:ch w B s A i)(c:Below B w w'):ch w' B s A i:=ch.Fv fun j e=>by
 obtain⟨b,o,d0,d1,d2,k,d,m,n,l,hi⟩:=h.at_ j e;exact⟨b,o,d0,d1,d2,k,d,(c.cell d).trans m,(c.cell d).trans n,(c.cell d).trans l,hi.below c⟩
theorem bT.one {w:World}{b c d:Value}(h:bT w B x b c d):b.oneCell'=true/\c.oneCell'=true/\d.oneCell'=true:=by
 obtain⟨A,cap,rfl,rfl,rfl,_⟩:=h.open_;exact⟨rfl,rfl,rfl⟩
def iZ (w:World)(B:Nat):List It->List Value->Prop
 | [],cs=>cs= []
 |x::xs,cs=>∃c0 c1 c2 ds,cs=c0::c1::c2::ds/\bT w B x c0 c1 c2/\iZ w B xs ds
theorem iZ.length {w:World}:∀{s:List It} {b:List Value},iZ w B s b->b.length=s.length*3
 | [],b,h=>by simp[iZ]at h;simp[h]
 |x::xs,b,h=>by
  obtain⟨d,e,i,j,rfl,_,c⟩:=h;have:=c.length;simp only[zy,this];omega
theorem iZ.one {w:World}:∀{s:List It} {b:List Value},iZ w B s b->∀u∈b,u.oneCell'=true
 | [],b,h=>by simp[iZ]at h;simp[h]
 |x::xs,b,h=>by
  obtain⟨j,k,l,m,rfl,e,i⟩:=h;have c:=e.one;have d:=i.one;intro u hu;simp only[xf]at hu;rcases hu with rfl|rfl|rfl|hu
  ·exact c.1
  ·exact c.2.1
  ·exact c.2.2
  exact d u hu
theorem iZ.ag {w:World}(c:B<=e)(d:∀p:Addr,p.block<B->w'.cell? p=w.cell? p):∀{s:List It} {b:List Value},iZ w B s b->iZ w' e s b
 | [],b,h=>h
 |x::xs,b,h=>by
  obtain⟨i,k,n,m,rfl,j,l⟩:=h;exact⟨i,k,n,m,rfl,bT.ag c d x j,l.ag c d⟩
theorem ch.cells {w:World}{b:Nat}:∀{s:List It} {i:Nat},ch w B s (some ⟨b,o,none⟩) i->∃e,iZ w B s e/\∀j u,e[j]?=some u->w.cell? ⟨b,o+i*3+j,none⟩=some u
 | [],i,_=>⟨[],rfl,by simp⟩
 |x::xs,i,h=>by
  obtain⟨⟨A,z,d,k,m,c,_,n,y,p,hi⟩,q⟩:=h;injection c with c;injection c with hb ho;subst hb;subst ho;obtain⟨l,hd,r⟩:=q.cells;refine⟨d::k::m::l,⟨d,k,m,l,rfl,hi,hd⟩,fun j u hu=> ?_⟩;match j,hu with
  |0,hu=>simp at hu;subst hu;exact n
  |1,hu=>simp at hu;subst hu;exact y
  |2,hu=>simp at hu;subst hu;exact p
  |j+3,hu=>
   have:=r j u (by simpa using hu);rw[show o+i*3+(j+3)=o+(i+1)*3+j from by omega];exact this
theorem ch.fe {w:World}{b:Nat}(e:b<B):∀{s:List It} {i:Nat} {c:List Value},iZ w B s c->(∀j u,c[j]?=some u->w.cell? ⟨b,o+i*3+j,none⟩=some u)->ch w B s (some ⟨b,o,none⟩) i
 | [],_,_,_,_=>trivial
 |x::xs,i,c,h,hc=>by
  obtain⟨d,k,l,p,rfl,m,n⟩:=h;refine⟨⟨b,o,d,k,l,rfl,e,by simpa using hc 0 d (by simp),hc 1 k (by simp),hc 2 l (by simp),m⟩,ch.fe e n fun j u hu=> ?_⟩;have:=hc (j+3) u (by simpa using hu);rw[show o+(i+1)*3+j=o+i*3+(j+3)from by omega];exact this
def mD (i:Int):Prop:= -9223372036854775808<=i/\i<=9223372036854775807
mutual
def cC (w:World)(B:Nat):Ty->Value->Value->Value->Value->Prop
 | .mk k s l t,c0,c1,c2,c3=>c0= .int .i64 k/\c1= .int .i64 s/\c3= .int .i64 t/\mD k/\mD s/\mD t/\l.length<=9223372036854775807/\∃A cap,c2= .slice A l.length cap/\l.length<=cap/\cap<=9223372036854775807/\ff w B l A 0
def ff (w:World)(B:Nat):List Ty->Option Addr->Nat->Prop
 | [],_,_=>True
 |x::xs,A,i=>(∃b o c0 c1 c2 c3,A=some ⟨b,o,none⟩/\b<B/\w.cell? ⟨b,o+i*4,none⟩=some c0/\w.cell? ⟨b,o+i*4+1,none⟩=some c1/\w.cell? ⟨b,o+i*4+2,none⟩=some c2/\w.cell? ⟨b,o+i*4+3,none⟩=some c3/\cC w B x c0 c1 c2 c3)/\ff w B xs A (i+1)
end
theorem ff.at_ {w:World}:∀{s:List Ty} {i:Nat},ff w B s A i->∀(j:Nat) (h:j<s.length),∃b o d e k c,A=some ⟨b,o,none⟩/\b<B/\w.cell? ⟨b,o+(i+j)*4,none⟩=some d/\w.cell? ⟨b,o+(i+j)*4+1,none⟩=some e/\w.cell? ⟨b,o+(i+j)*4+2,none⟩=some k/\w.cell? ⟨b,o+(i+j)*4+3,none⟩=some c/\cC w B s[j] d e k c
 | [],_,_,j,h=>by simp at h
 |x::xs,i,hi,0,_=>by simpa[ff]using hi.1
 |x::xs,i,hi,j+1,h=>by
  have:=ff.at_ hi.2 j (by simpa using h);rw[show i+1+j=i+(j+1)from by omega]at this;simpa using this
theorem ff.Fv {w:World}:∀{s:List Ty} {i:Nat},(∀(j:Nat) (h:j<s.length),∃b o c d k e,A=some ⟨b,o,none⟩/\b<B/\w.cell? ⟨b,o+(i+j)*4,none⟩=some c/\w.cell? ⟨b,o+(i+j)*4+1,none⟩=some d/\w.cell? ⟨b,o+(i+j)*4+2,none⟩=some k/\w.cell? ⟨b,o+(i+j)*4+3,none⟩=some e/\cC w B s[j] c d k e)->ff w B s A i
 | [],_,_=>by simp[ff]
 |x::xs,i,h=>by
  refine⟨h 0 (Nat.zero_lt_succ _),ff.Fv fun j l=> ?_⟩;have:=h (j+1) (by simpa using l);rw[show i+(j+1)=i+1+j from by omega]at this;simpa using this
theorem cC.open_ {w:World}{x:Ty}{b c e d:Value}(h:cC w B x b c e d):∃A cap,b= .int .i64 x.kind/\c= .int .i64 x.size/\e= .slice A x.sub.length cap/\d= .int .i64 x.tail/\mD x.kind/\mD x.size/\mD x.tail/\x.sub.length<=cap/\cap<=9223372036854775807/\ff w B x.sub A 0:=by
 cases x with
 |mk k s l t=>
  obtain⟨m,j,y,r,u,p,z,A,cap,n,q,o,i⟩:=h;exact⟨A,cap,m,j,n,y,r,u,p,q,o,i⟩
theorem cC.ag {w:World}{r:Nat}(R:B<=r)(c:∀p:Addr,p.block<B->w'.cell? p=w.cell? p):∀(x:Ty) {n e m i:Value},cC w B x n e m i->cC w' r x n e m i:=by
 intro x;induction x using Ty.ind with
 |h k s l t ih=>
  intro n e m i h;obtain⟨G,N,J,E,O,I,z,A,cap,C,L,K,M⟩:=h;refine⟨G,N,J,E,O,I,z,A,cap,C,L,K,ff.Fv fun j q=> ?_⟩;obtain⟨b,o,d0,d1,d2,d3,u,d,y,D,F,H,hi⟩:=M.at_ j q;exact⟨b,o,d0,d1,d2,d3,u,by omega,(c _ d).trans y,(c _ d).trans D,(c _ d).trans F,(c _ d).trans H,ih _ (zE q) hi⟩
theorem cC.below {w:World}{x:Ty}{b c e d:Value}(h:cC w B x b c e d)(i:Below B w w'):cC w' B x b c e d:=cC.ag (zg _) (fun _ j=>i.cell j) x h
theorem cC.mono {w:World}{x:Ty}{b c e d:Value}(h:cC w B x b c e d)(j:B<=i):cC w i x b c e d:=cC.ag j (fun _ _=>rfl) x h
theorem ff.ag {w:World}(m:B<=e)(c:∀p:Addr,p.block<B->w'.cell? p=w.cell? p){s:List Ty}(h:ff w B s A i):ff w' e s A i:=ff.Fv fun j l=>by
 obtain⟨b,o,d0,d1,d2,d3,k,d,n,u,q,r,hi⟩:=h.at_ j l;exact⟨b,o,d0,d1,d2,d3,k,by omega,(c _ d).trans n,(c _ d).trans u,(c _ d).trans q,(c _ d).trans r,hi.ag m c⟩
theorem ff.below {w:World}{s:List Ty}(h:ff w B s A i)(c:Below B w w'):ff w' B s A i:=h.ag (zg _) (fun _ b=>c.cell b)
theorem aN {w:World}{g:Nat}{t:TypeId}{b c d:Value}(h:af w g t #[a,b,c,d]):w.cell? ⟨g,0,none⟩=some a/\w.cell? ⟨g,1,none⟩=some b/\w.cell? ⟨g,2,none⟩=some c/\w.cell? ⟨g,3,none⟩=some d/\w.frozen? ⟨g,0,none⟩=false/\w.frozen? ⟨g,1,none⟩=false/\w.frozen? ⟨g,2,none⟩=false/\w.frozen? ⟨g,3,none⟩=false:=
 ⟨h.cell 0,h.cell 1,h.cell 2,h.cell 3,h.frozen 0,h.frozen 1,h.frozen 2,h.frozen 3⟩
theorem M3 {w:World}{t:TypeId}{b c d:Value}(i:Below (w.heap.size+1) (w.alloc (.cells #[a,b,c,d] t)) w'):w'.cell? ⟨w.heap.size,0,none⟩=some a/\w'.cell? ⟨w.heap.size,1,none⟩=some b/\w'.cell? ⟨w.heap.size,2,none⟩=some c/\w'.cell? ⟨w.heap.size,3,none⟩=some d:=by
 have e:=af.new w t #[a,b,c,d];have h:af w' w.heap.size t #[a,b,c,d]:=(i.block _ (by omega)).trans e;exact⟨h.cell 0,h.cell 1,h.cell 2,h.cell 3⟩
theorem B5 (n:Nat):(madeCells #[Value.int .u8 0] n).toList=cb (List.replicate n 0):=by
 have:=uV n;rw[xZ]at this;exact this
theorem M4 (n:Nat):(madeCells #[Value.int .u8 0] n).size=n:=by
 have:=xu List.length (B5 n);rw[bs,xA]at this;simpa using this
theorem mh {P:Program}(w:World){o:Oper}{a:Act}
 (y:o.guard=none) (l c:Operand) (t:TypeId) (C:o.op=Op.makeSlice t l c)
 (base:Nat) (e:TypeId) (i:TypeInfo) (B:P.underlying t=some (.slice e)) (hi:P.info? e=some i) (hz:i.zero=some (.int .u8 0)) (x:i.size=1) (z:i.bytes=1)
 (p h:IntKind) (m n:Nat) (u:a.eval l= .int p (m:Int)) (q:a.eval c= .int h (n:Int)) (b:m<=n) (D:n<=281474976710656) (j:base<=w.heap.size)
 (s:∀w',bP w' base e (.slice (some ⟨w.heap.size,0,none⟩) m n) (List.replicate m 0)->Kept e base w w'->Below w.heap.size w w'->wpList P ops Q rest (a.put o.dst (.slice (some ⟨w.heap.size,0,none⟩) m n)) w'):
 wpList P ops Q (o::rest) a w:=by
 refine wpList_plain y fun K A=> ?_
 have k:=run_make (P:=P) w t e i (.int .u8 0) B hi hz p h m n (by omega) (by omega) (by rw[z];omega) (by omega);simp only[Int.toNat_natCast,x,xZ]at k;have r:bP (w.alloc (.cells (madeCells #[Value.int .u8 0] n) e)) base e (.slice (some ⟨w.heap.size,0,none⟩) m n) (List.replicate m 0):=by
  refine⟨some ⟨w.heap.size,0,none⟩,n,by rw[xA],by rw[xA];exact b,by omega,.inr ⟨w.heap.size,madeCells #[Value.int .u8 0] n,(0,0),rfl,j,yP w _,M4 n, ?_,.inl rfl⟩⟩;rw[xA,B5,<-To,List.take_replicate,yD b]
 have d:Below w.heap.size w (w.alloc (.cells (madeCells #[Value.int .u8 0] n) e)):=(zl _ w).alloc (zg _) _;unfold Oper.wp;simp[execOp,C,u,q,k,Result.andThen];exact A _ _ (s _ r (Kept.ah d (zg _) j) d)
def fJ (L:List UInt8)(a b:Nat):Prop:=L[a]?=L[b]?/\L[a+1]?=L[b+1]?/\L[a+2]?=L[b+2]?/\L[a+3]?=L[b+3]?
instance (L :List UInt8)(a b:Nat):Decidable (fJ L a b):=by unfold fJ;infer_instance
theorem fJ.symm {L:List UInt8}{a b:Nat}(h:fJ L a b):fJ L b a:=⟨h.1.symm,h.2.1.symm,h.2.2.1.symm,h.2.2.2.symm⟩
theorem fJ.trans {L:List UInt8}{a b c:Nat}(h:fJ L a b)(k:fJ L b c):fJ L a c:=⟨h.1.trans k.1,h.2.1.trans k.2.1,h.2.2.1.trans k.2.2.1,h.2.2.2.trans k.2.2.2⟩
def jJ (L:List UInt8)(a:Nat):Nat->Option Nat
 |0=>none
 |n+1=>if n+4<=L.length/\fJ L n a then some n else jJ L a n
theorem mt4 (L:List UInt8)(j i:Nat)(h:j<i)(hi:i<=L.length):4<=mt L j i 64↔i+4<=L.length/\fJ L j i:=by
 constructor
 ·intro c;have b:=(BG L 64 j i).2 hi;exact⟨by omega,EL L 64 j i 0 (by omega),EL L 64 j i 1 (by omega),EL L 64 j i 2 (by omega),EL L 64 j i 3 (by omega)⟩
 rintro⟨b,g0,g1,g2,g3⟩;have d:mt L j i 64=mt L (j+4) (i+4) 60+4:=by
  rw[mt,zi ⟨by omega,g0⟩,mt,zi ⟨by omega,g1⟩,mt,zi ⟨by omega,g2⟩,mt,zi ⟨by omega,g3⟩]
 omega
theorem vB (L:List UInt8)(i:Nat)(hi:i<=L.length)(h:¬i+4<=L.length):∀k,k<=i->Ie L i k=none:=by
 intro k;induction k with
 |zero=>intro _;rfl
 |succ k ih=>
  intro c;rw[Ie,zh (by rw[mt4 L k i (by omega) hi];exact fun b=>h b.1)];exact ih (by omega)
theorem PU (L:List UInt8)(i:Nat)(hi:i+4<=L.length):∀k,k<=i->Ie L i k=jJ L i k:=by
 intro k;induction k with
 |zero=>intro _;rfl
 |succ k ih=>
  intro c;rw[Ie,jJ,ih (by omega)];by_cases h:fJ L k i
  ·rw[zi ((mt4 L k i (by omega) (by omega)).2 ⟨hi,h⟩),zi ⟨by omega,h⟩]
  rw[zh (fun b=>h ((mt4 L k i (by omega) (by omega)).1 b).2),zh (fun b=>h b.2)]
theorem PV (L:List UInt8)(a:Nat):∀n j,jJ L a n=some j->j<n:=by
 intro n;induction n with
 |zero=>intro j h;simp[jJ]at h
 |succ n ih=>
  intro j h;rw[jJ]at h;split at h
  ·injection h with h;omega
  have:=ih j h;omega
theorem IK (L:List UInt8)(a n:Nat)(h:n+4<=L.length)(b:fJ L n a):jJ L a (n+1)=some n:=by rw[jJ,zi ⟨h,b⟩]
theorem sT (L:List UInt8)(a n:Nat)(h:¬(n+4<=L.length/\fJ L n a)):jJ L a (n+1)=jJ L a n:=by rw[jJ,zh h]
theorem af.at_ {b:World}{k:Nat}{t:TypeId}{c:Array Value}(hz:b.heap.size=k):af (b.alloc (.cells c t)) k t c:=hz▸af.new b t c
def pe (w:World)(B:Nat)(v:Value)(l:List bz):Prop:=∃A cap,v= .slice A l.length cap/\l.length<=cap/\cap<=9223372036854775807/\∀j (h:j<l.length),∃g o,A=some ⟨g,o,none⟩/\g<B/\w.cell? ⟨g,o+j*3,none⟩=some (.int .u64 l[j].id)/\w.cell? ⟨g,o+j*3+1,none⟩=some (.string l[j].name)/\w.cell? ⟨g,o+j*3+2,none⟩=some (.string l[j].ty)
theorem pe.ag {w:World}{d:Nat}{l:List bz}(h:pe w B v l)(x:B<=d)(c:∀p:Addr,p.block<B->w'.cell? p=w.cell? p):pe w' d v l:=by
 obtain⟨A,cap,m,r,u,e⟩:=h;refine⟨A,cap,m,r,u,fun j k=> ?_⟩;obtain⟨g,o,i,b,n,s,q⟩:=e j k;exact⟨g,o,i,by omega,(c _ b).trans n,(c _ b).trans s,(c _ b).trans q⟩
theorem pe.below {w:World}{l:List bz}(h:pe w B v l)(c:Below B w w'):pe w' B v l:=h.ag (zg _) (fun _ b=>c.cell b)
theorem pe.mono {w:World}{b:Nat}{l:List bz}(h:pe w B v l)(c:B<=b):pe w b v l:=h.ag c (fun _ _=>rfl)
theorem pe.cH {w:World}{l:List bz}(h:pe w B v l):∃A n cap,v= .slice A n cap/\Hid (n=l.length)/\n<=cap/\cap<=9223372036854775807:=by
 obtain⟨A,cap,c,b,d,_⟩:=h;exact⟨A,_,cap,c,za rfl,b,d⟩
theorem pe.at_ {w:World}{l:List bz}(h:pe w B (.slice A n cap) l)(c:j<l.length):∃g o,A=some ⟨g,o,none⟩/\g<B/\w.cell? ⟨g,o+j*3,none⟩=some (.int .u64 l[j].id)/\w.cell? ⟨g,o+j*3+1,none⟩=some (.string l[j].name)/\w.cell? ⟨g,o+j*3+2,none⟩=some (.string l[j].ty):=by
 obtain⟨i,k,d,e,m,b⟩:=h;injection d with hA _ _;subst hA;exact b j c
theorem pe.nil (w:World)(B:Nat):pe w B (.slice none 0 0) []:=⟨none,0,rfl,by simp,by simp,fun j b=>by simp at b⟩
def OL (w:World)(B:Nat)(v:Value)(l:List ByteArray):Prop:=∃A cap,v= .slice A l.length cap/\l.length<=cap/\cap<=9223372036854775807/\∀j (h:j<l.length),∃g o,A=some ⟨g,o,none⟩/\g<B/\w.cell? ⟨g,o+j,none⟩=some (.string l[j])
theorem OL.below {w:World}(h:OL w B v l)(m:Below B w w'):OL w' B v l:=by
 obtain⟨A,cap,i,n,p,c⟩:=h;refine⟨A,cap,i,n,p,fun j d=> ?_⟩;obtain⟨g,o,e,b,k⟩:=c j d;exact⟨g,o,e,b,(m.cell b).trans k⟩
theorem OL.ag {w:World}(h:OL w B v l)(p:∀k,k<B->v.ownBlock=some k->w'.heap[k]?=w.heap[k]?):OL w' B v l:=by
 obtain⟨A,cap,c,n,q,e⟩:=h;refine⟨A,cap,c,n,q,fun j i=> ?_⟩;obtain⟨g,o,b,d,m⟩:=e j i;exact⟨g,o,b,d,(zF (p g d (by rw[c,b];rfl))).trans m⟩
theorem OL.cH {w:World}(h:OL w B v l):∃A n cap,v= .slice A n cap/\Hid (n=l.length)/\n<=cap/\cap<=9223372036854775807:=by
 obtain⟨A,cap,c,b,d,_⟩:=h;exact⟨A,_,cap,c,za rfl,b,d⟩
theorem OL.at_ {w:World}(h:OL w B (.slice A n cap) l)(c:j<l.length):∃g o,A=some ⟨g,o,none⟩/\g<B/\w.cell? ⟨g,o+j,none⟩=some (.string l[j]):=by
 obtain⟨i,k,d,e,m,b⟩:=h;injection d with hA _ _;subst hA;exact b j c
abbrev vC (w:World)(lo:Nat)(v:Value)(l:List ByteArray):Prop:=w.ownsRow lo 9 1 v l.length (l.map .string)
theorem vC.nil (w:World)(b:Nat):vC w b (.slice none 0 0) []:=⟨rfl,.inl ⟨rfl,rfl⟩⟩
theorem vC.cH {w:World}{d:Nat}(h:vC w d v l):∃A n cap,v= .slice A n cap/\Hid (n=l.length)/\n<=cap/\cap<=9223372036854775807:=by
 rcases h.2 with⟨e,k⟩|⟨q,j,p,b,m,o,c,i,s,r⟩
 ·exact⟨none,0,0,e,za k.symm,by omega,by simp⟩
 exact⟨_,_,j,b,za rfl,c,by simpa[maxLen]using i⟩
theorem vC.read {w:World}(h:vC w n v l):OL w w.heap.size v l:=by
 obtain⟨k,c⟩:=h;rcases c with⟨c,r⟩|⟨g,cap,x,e,s,d,m,o,y,p⟩
 ·obtain rfl:l= []:=zo r;rw[c];exact⟨none,0,rfl,by simp,by simp,fun j b=>by simp at b⟩
 refine⟨_,cap,e,m,by simpa[maxLen]using o,fun j b=> ?_⟩;have q:(l.map Value.string)[j]?=some (.string l[j]):=by simp[b]
 have key:∀i u,(l.map Value.string)[i]?=some u->w.cell? ⟨g,i,none⟩=some u:=by
  intro i u hu;have z:i<l.length*1:=by
   have:=(xB.1 hu).1;rw[k]at this;exact this
  rw[<-p,yA (by omega)]at hu;simp only[World.cell?,d];simpa using hu
 exact⟨g,0,rfl,yI d,by rw[zG];exact key _ _ q⟩
theorem vC.ag {w:World}{b:Nat}(h:vC w b v l)(c:∀k,b<=k->k<w.heap.size->w'.heap[k]?=w.heap[k]?):vC w' b v l:=by
 refine⟨h.1, ?_⟩;rcases h.2 with h2|⟨g,cap,cur,hv,hb,hh,r⟩
 ·exact .inl h2
 exact .inr ⟨g,cap,cur,hv,hb,(c g hb (yI hh)).trans hh,r⟩
theorem vC.below {w:World}{b:Nat}(h:vC w b v l)(d:Below w.heap.size w w'):vC w' b v l:=h.ag fun k _ c=>d.block k c
theorem vC.ge {w:World}{c:Nat}(h:vC w c v l):∀g,v.ownBlock=some g->c<=g/\g<w.heap.size:=by
 intro g b;rcases h.2 with⟨k,m⟩|⟨j,cap,n,d,e,i,_⟩
 ·rw[k]at b;cases b
 rw[d]at b;have:j=g:=by simpa[Value.ownBlock]using b
 subst this;exact⟨e,yI i⟩
theorem M5 :(prog.info? 9).map (fun i=>(i.zero,i.size,i.bytes))=some (some (.string ⟨#[]⟩),1,16):=by kernel_rfl
theorem Xb (g j:Nat):(⟨g,0,none⟩:Addr).add j=⟨g,j,none⟩:=by unfold Addr.add;split<;>simp_all
theorem kq {w:World}{o:Oper}{a:Act}(l:o.guard=none)(s x:Operand)
 (n:o.op= .call {callee:= .builtin .append,args:= #[s,x],argTypes:= #[51,51]}) (c:Nat) (acc:List ByteArray)  (C:a.eval s=v) (k:vC w c v acc) (y:ByteArray)
 (g:Nat) (hx:a.eval x= .slice (some ⟨g,0,none⟩) 1 1) (r:w.cell? ⟨g,0,none⟩=some (.string y))
 (D:acc.length<=1000000) (z:c<=w.heap.size)
 (q:∀b d cap w',Hid (d=(acc++ [y]).length)->vC w' c (.slice (some ⟨b,0,none⟩) d cap) (acc++ [y])->w.grownBy w' v.ownBlock->c<=b->wpList prog ops Q rest (a.put o.dst (.slice (some ⟨b,0,none⟩) d cap)) w'):wpList prog ops Q (o::rest) a w:=by
 obtain⟨i0,hi,B,p,A⟩:=yG M5;refine yW w l s x 51 n c 9 i0 _ 1 16 underlying51 hi B p A rfl (by decide) v acc.length (acc.map .string) C k ⟨g,0,none⟩ 1 1 [.string y] hx rfl ?_ (by simp[Value.oneCell']) (by decide) (by simp only[maxLen];omega) (by omega) z w.heap.size rfl ?_
 ·intro j u hu;rw[Xb];match j,hu with
  |0,hu=>simp at hu;subst hu;exact r
 intro b cap w' m i F E;have e:(acc++ [y]).length=acc.length+1:=by simp
 have h:vC w' c (.slice (some ⟨b,0,none⟩) (acc.length+1) cap) (acc++ [y]):=by rw[vC,Ym,e];exact m
 exact q b _ cap w' (za e.symm) (by simpa using h) i (h.ge b rfl).1
def KR :ByteArray->List Nat->List ByteArray
 |b,[]=> [b]
 |b,k::ks=>b.extract 0 (min k b.size)::KR (b.extract (min k b.size) b.size) ks
theorem IL (b:ByteArray)(c:List Nat):(KR b c).length=c.length+1:=by
 induction c generalizing b with
 |nil=>rfl
 |cons k c ih=>simp[KR,ih]
def cP :List ByteArray->ByteArray
 | []=>ByteArray.empty
 |a::l=>a++cP l
theorem IM (l:List ByteArray)(a:ByteArray):cP (l++ [a])=cP l++a:=by
 induction l with
 |nil=>apply aF;simp[cP,aU]
 |cons x l ih=>apply aF;simp only[zP,cP,ih,aU,zB]
theorem vD {k:Nat}(h:k<l.length):cP (l.take (k+1))=cP (l.take k)++l[k]:=by
 rw[<-IM,ZY,zx h];rfl
theorem IN {k:Nat}(h:k<l.length):(cP (l.take (k+1))).size=(cP (l.take k)).size+l[k].size:=by rw[vD h,bW]
theorem IP (l:List ByteArray)(k:Nat):(cP (l.take k)).size<=(cP l).size:=by
 induction l generalizing k with
 |nil=>simp[cP]
 |cons a l ih=>
  cases k with
  |zero=>simp[cP]
  |succ k=>simp only[zO,cP,bW];have:=ih k;omega
theorem PY (b:ByteArray)(c:List Nat):cP (KR b c)=b:=by
 induction c generalizing b with
 |nil=>apply aF;simp[KR,cP,aU]
 |cons k c ih=>
  simp only[KR,cP,ih];apply aF;rw[aU,ar,ar,dq];simp only[zJ];exact zC _ _
theorem M6 (a b:List ByteArray):cP (a++b)=cP a++cP b:=by
 induction a with
 |nil=>apply aF;simp[cP,aU]
 |cons x l ih=>apply aF;simp only[zP,cP,ih,aU,zB]
theorem PZ {c:Type}{nx:Nx c}(h:kF nx){t:ByteArray}(b:(split nx (s++t)).2.2.2=0):(split nx s).2.2.2=0:=by
 have e:=oZ h s t;by_cases hz:(split nx s).2.2.2=0
 ·exact hz
 rw[zh hz]at e;rw[e]at b;exact absurd b hz
theorem P0 {c:Type}{nx:Nx c}(h:kF nx)(b:(split nx (cP l)).2.2.2=0)(k:Nat):(split nx (cP (l.take k))).2.2.2=0:=by
 rw[<-zC k l,M6]at b;exact PZ h b
theorem Fw {c:Type}{nx:Nx c}(h:kF nx){x:gE}{b:List ByteArray}{k:Nat}{acc:List c}(hx:ko nx x (cP (b.take k)) acc)(d:k<b.length):ko nx (mN nx x b[k]).1 (cP (b.take (k+1))) (acc++(mN nx x b[k]).2.1):=by
 rw[vD d];exact hx.mN h _
theorem CY {b:Type}{nx:Nx b}(h:kF nx)(d:(nx ByteArray.empty).1=2)(c:List ByteArray):ko nx gE.new (cP (c.take 0)) ([]:List b):=by
 rw[yu];exact ko.new h d
def B6 (w:World)(B:Nat)(v:Value)(l:List Nat):Prop:=∃A cap,v= .slice A l.length cap/\l.length<=cap/\cap<=9223372036854775807/\∀j (h:j<l.length),∃g o,A=some ⟨g,o,none⟩/\g<B/\w.cell? ⟨g,o+j,none⟩=some (.int .u8 (l[j]:Nat))
theorem B6.ag {w:World}{b:Nat}{l:List Nat}(h:B6 w B v l)(s:B<=b)(q:∀p:Addr,p.block<B->w'.cell? p=w.cell? p):B6 w' b v l:=by
 obtain⟨A,cap,i,n,r,c⟩:=h;refine⟨A,cap,i,n,r,fun j e=> ?_⟩;obtain⟨g,o,d,m,k⟩:=c j e;exact⟨g,o,d,by omega,(q _ m).trans k⟩
theorem B6.below {w:World}{l:List Nat}(h:B6 w B v l)(c:Below B w w'):B6 w' B v l:=h.ag (zg _) (fun _ b=>c.cell b)
theorem B6.cH {w:World}{l:List Nat}(h:B6 w B v l):∃A n cap,v= .slice A n cap/\Hid (n=l.length)/\n<=cap/\cap<=9223372036854775807:=by
 obtain⟨A,cap,c,b,d,_⟩:=h;exact⟨A,_,cap,c,za rfl,b,d⟩
theorem B6.at_ {w:World}{l:List Nat}(h:B6 w B (.slice A n cap) l)(c:j<l.length):∃g o,A=some ⟨g,o,none⟩/\g<B/\w.cell? ⟨g,o+j,none⟩=some (.int .u8 (l[j]:Nat)):=by
 obtain⟨i,k,d,e,m,b⟩:=h;injection d with hA _ _;subst hA;exact b j c
theorem B6.nil (w:World)(B:Nat):B6 w B (.slice none 0 0) []:=⟨none,0,rfl,by simp,by simp,fun j b=>by simp at b⟩
theorem IQ {c:aP}{l:List bz}(x:It)(h:dw l nm=none):bF c l nm x=(ByteArray.empty,11):=by
 unfold bF bc;rw[h];simp
theorem Fx {c:aP}(e:c.fm=1->t.flat=true)(h:cU t x≠0):(bE c t x).2=cU t x:=by
 unfold bE;by_cases b:c.fm=1
 ·have d:fI t x c.it=cU t x:=by unfold fI;rw[zh (by rw[e b];simp),zi h]
  rw[zi b];unfold lh;rw[d,zh h]
 rw[zh b];show eJ t x c.de c.it=_
 unfold eJ;rw[zi h]
theorem M7 {c:aP}(i:c.fm=1->t.flat=true)(h:cU t x=0):(bE c t x).2=0\/(bE c t x).2=4\/(bE c t x).2=6:=by
 unfold bE;by_cases d:c.fm=1
 ·have b:fI t x c.it=if c.it<(x.count:Int)then 4 else 0:=by unfold fI;rw[zh (by rw[i d];simp),zh (by simp[h])]
  rw[zi d];unfold lh;rw[b];by_cases b:c.it<(x.count:Int)
  ·rw[zi b];simp
  rw[zh b];simp
 rw[zh d];show eJ t x c.de c.it=0\/eJ t x c.de c.it=4\/eJ t x c.de c.it=6
 have e:x.may=true:=by
  unfold cU at h;cases hx:x.may with
  |true=>rfl
  |false=>rw[hx]at h;simp at h
 unfold eJ fD;rw[zh (by simp[h]),e,zh (by simp)];split
 ·simp
 split<;>simp
theorem Fy {c:aP}{l:List bz}{e:bz}(i:cK c l)(h:dw l nm=some e)(b:cU e.shape x≠0):bF c l nm x=(ByteArray.empty,cU e.shape x):=by
 obtain⟨k,_⟩:=gx h;have m:=Fx (c:=c) (fun d=>i.flat d e k) b;have j:bc c l nm x=(mQ,cU e.shape x):=by
  unfold bc;rw[h];simp only;rw[m,zi b]
 unfold bF;rw[j,zi b]
theorem IS {c:aP}(d:c.fm=1->bZ f.nm=true):(aM c f).2=0\/(aM c f).2=5:=by
 unfold aM;by_cases b:c.fm=1
 ·rw[zi b,zi (d b)];split<;>simp
 rw[zh b];split
 ·split<;>simp
 split
 ·simp
 split<;>simp
theorem IT {c:aP}{l:List bz}{e:bz}(r:c.right=true)(o:cK c l)(h:dw l nm=some e)(w:cU e.shape x=0)(i:(bF c l nm x).2≠0):(bF c l nm x).2=6\/(bF c l nm x).2=4\/(bF c l nm x).2=5:=by
 obtain⟨p,_⟩:=gx h;have z:=M7 (c:=c) (fun b=>o.flat b e p) w;by_cases hz:(bc c l nm x).2=0
 ·obtain⟨u,b,_,m⟩:=lj hz;obtain rfl:e=u:=by rw[h]at b;exact yg b
  have A:hG c (bc c l nm x).1=true:=by
   rw[m];unfold hG;by_cases d:c.fm=1
   ·rw[zi d,zi d];simp
   rw[zh d,zh d];simp
  have y:c.fm=1->bZ (bc c l nm x).1.nm=true:=fun d=>by rw[m,zi d];exact o.may e p
  have s:=IS y;have k:bF c l nm x=eU c (bc c l nm x).1:=by unfold bF;rw[zh (by simp[hz])]
  rw[k]at i⊢;unfold eU at i⊢;rw[zi ⟨r,A⟩]at i⊢;by_cases j:(aM c (bc c l nm x).1).2≠0
  ·rw[zi j];rcases s with h|h
   ·exact absurd h j
   exact .inr (.inr h)
  rw[zh j]at i⊢;by_cases n:(bp c (aM c (bc c l nm x).1).1).1=5
  ·rw[zi n];exact .inr (.inr rfl)
  rw[zh n]at i;exact absurd rfl i
 have k:(bF c l nm x).2=(bc c l nm x).2:=by unfold bF;rw[zi hz]
 have q:(bc c l nm x).2=(bE c e.shape x).2:=by
  unfold bc at hz⊢;rw[h]at hz⊢;simp only at hz⊢;by_cases b:(bE c e.shape x).2≠0
  ·rw[zi b]
  rw[zh b]at hz;split at hz<;>exact absurd rfl hz
 rw[k,q];rw[q]at hz;rcases z with h|h|h
 ·exact absurd h hz
 ·exact .inr (.inl h)
 exact .inl h
