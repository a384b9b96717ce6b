/- Values as trees: plain laws. No program in sight. -/
import Derived.Test.YtimoclkoflamkaaGreatDoorKA5
import Derived.Deep.OwnRows
set_option linter.all false
namespace Go.Proofs.YtimoclkoflamkaaGreatDoor
variable {B base n cap N i j o:Nat}{x:It}{w':World}{v e a:Value}{nm s way:ByteArray}{l:List UInt8}{A:Option Addr}{f:Fr}{F:gW}{t:Ty}{ops:Array Oper}{Q:Exit->Act->World->Prop}
def zt:=@decide_eq_false
def yA:=@List.mem_append
def yE:=@List.mem_singleton
def xf:=@List.mem_of_getElem?
def xL:=@List.getElem_append_left
def xQ:=@MapKept.run_getObj_map
def xW:=@List.any_eq_false
def xX:=@run_underlying
def Zb:=@MapKept.run_checkKey
def Zg:=@List.any_eq_true
def Zl:=@List.mem_of_find?_eq_some
def Zn:=@MapKept.run_findKey
def Yf:=@Nat.zero_lt_succ
def YH:=@List.find?_some
theorem Gn (b n:Nat)(h:n<18446744073709551616):(cF b n).length<=9:=by
 rw[ey];have:=gC 8 n (by simpa using h);split<;>omega
theorem JN (s:List It)(b:∀x∈s,x.total+9*x.count<1099511627776->x.fB.length<=x.total+9*x.count):lR s+9*aC s<1099511627776->(fu s).length<=lR s+9*aC s:=by
 induction s with
 |nil=>simp[fu]
 |cons x xs Ir=>
  intro h;simp only[lR,aC]at h;have d:=b x (by simp) (by omega);have e:=Ir (fun y c=>b y (by simp[c])) (by omega);simp only[fu,lR,aC,zh];omega
theorem N9 (x:It):x.total+9*x.count<1099511627776->x.fB.length<=x.total+9*x.count:=by
 induction x using It.ind with
 |h t l s ih=>
  intro h;simp only[It.total,It.count]at h;have c:=JN s ih (by omega);rw[It.fB];simp only[It.total,It.count];by_cases b:l=true
  ·rw[zg b,zh];have:=Gn 192 (fu s).length (by omega);omega
  rw[zf b];split
  ·have:t.data.toList.length=t.size:=aa t;omega
  rw[zh];have:=Gn 128 t.size (by omega);have:t.data.toList.length=t.size:=aa t;omega
theorem N' (x:It)(h:x.kU=false):x.fB.length<=20000:=by
 have b:=tw x h;have c:=Jw x;simp only[It.kU,Zd,yM]at h;have d:=N9 x (by omega);omega
def lU (D M:Int)(s:ByteArray):Int:=if(bs D M s 1 0).e≠0 then(bs D M s 1 0).e else if(bs D M s 1 0).size<s.size then 3 else 0
def ja (D M:Int)(s:ByteArray):It:=if lU D M s≠0 then kG else(bs D M s 1 0).x
theorem CR (x:It):x.may=true↔x.right=true/\x.deep<=16/\x.count<=1024:=by
 simp only[It.may,zv,zU,and_assoc]
theorem pK (x:It)(D M:Int):fP x D M=0↔x.may=true/\(x.deep:Int)<=D/\(x.count:Int)<=M:=by
 unfold fP;cases x.may<;>simp
 split
 ·simp;omega
 split
 ·simp;omega
 simp;omega
theorem Rq (D M:Int)(x:It)(h:fP x D M=0)(s:ByteArray)(d:s.data.toList=x.fB)(hz:s.size<18446744073709551616):lU D M s=0/\ja D M s=x:=by
 rw[pK,CR]at h;obtain⟨⟨e,k,i⟩,l,j⟩:=h;have c:=Vk D M x s [] 1 0 (by simpa using d) hz e (by omega) (by omega) (by omega) (by omega);have m:s.size=x.fB.length:=by rw[<-d,aa]
 have b:lU D M s=0:=by
  unfold lU;rw[c];simp;omega
 refine⟨b, ?_⟩;unfold ja;rw[zf (by simp[b]),c]
theorem Rr (D M:Int)(s:ByteArray)(h:lU D M s=0):fP (ja D M s) D M=0/\(ja D M s).fB=s.data.toList:=by
 have hx:ja D M s=(bs D M s 1 0).x:=by unfold ja;rw[zf (by simp[h])]
 rw[hx];unfold lU at h;have b:=(Vj D M s.size).1 s 1 0 (ze _);generalize bs D M s 1 0=R at*;by_cases c:R.e≠0
 ·rw[zg c]at h;exact absurd h c
 rw[zf c]at h;have b:=b (zC.1 c);have d:¬R.size<s.size:=by intro d;rw[zg d]at h;simp at h
 have e:s.data.toList.length=s.size:=aa s;refine⟨?_, ?_⟩
 ·rw[pK,CR];have j:=b.deepD;have i:=b.deep16;have a3:=b.manyM;have a4:=b.many;exact⟨⟨b.right,by omega,by omega⟩,by omega,by omega⟩
 rw[b.fB,zw (by omega)]
theorem sH (ty:Ty)(x:It):ep ty x=0↔ty.may=true/\x.may=true/\x.dF ty=true:=by
 unfold ep;cases ty.may<;>cases x.may<;>cases x.dF ty<;>simp
def gD (ty:Ty)(x:It)(D M:Int):Int:=if ep ty x≠0 then ep ty x else fP x D M
def kr (ty:Ty)(s:ByteArray)(D M:Int):Int:=if ty.may=false then 1 else if lU D M s≠0 then lU D M s else ep ty (ja D M s)
def qK (ty:Ty)(s:ByteArray)(D M:Int):It:=if kr ty s D M≠0 then kG else ja D M s
theorem lV (ty:Ty)(x:It)(D M:Int):gD ty x D M=0↔ep ty x=0/\fP x D M=0:=by
 unfold gD;split<;>simp_all
theorem pL (ty:Ty)(s:ByteArray)(D M:Int):kr ty s D M=0↔ty.may=true/\lU D M s=0/\ep ty (ja D M s)=0:=by
 unfold kr;cases ty.may
 ·simp
 simp only[Bool.true_eq_false,xO,true_and];split<;>simp_all
theorem DY (ty:Ty)(x:It)(D M:Int)(h:gD ty x D M=0)(s:ByteArray)(b:s.data.toList=x.fB)(hz:s.size<18446744073709551616):kr ty s D M=0/\ja D M s=x:=by
 rw[lV]at h;obtain⟨c,d⟩:=Rq D M x h.2 s b hz;rw[pL,d];exact⟨⟨((sH ty x).1 h.1).1,c,h.1⟩,rfl⟩
theorem DZ (ty:Ty)(s:ByteArray)(D M:Int)(h:kr ty s D M=0):gD ty (ja D M s) D M=0/\(ja D M s).fB=s.data.toList:=by
 rw[pL]at h;obtain⟨b,c⟩:=Rr D M s h.2.1;rw[lV];exact⟨⟨h.2.2,b⟩,c⟩
structure aV where
 id:Nat
 name:ByteArray
 ty:ByteArray
def aV.shape (e:aV):Ty:=(cO e.ty.data.toList).getD (.mk 0 0 [] 0)
def fQ (c:aF)(seen:List aV)(e:aV):Int:=
 if ca e.name=false then 11 else if(seen.any fun x=>decide (x.name=e.name))=true then 11 else if(seen.any fun x=>decide (x.id=e.id))=true then 1
 else if cO e.ty.data.toList=none then 3 else if c.fm=1/\e.shape.flat=false then 12 else 0
def iO (c:aF):List aV->List aV->Int
 |_,[]=>0
 |seen,e::r=>if fQ c seen e≠0 then fQ c seen e else iO c (seen++ [e]) r
def mF (c:aF)(l:List aV):Int:=if c.right=false then 1 else if 32<l.length then 4 else iO c [] l
def fE (l:List aV)(nm:ByteArray):Option aV:=l.find? fun e=>decide (e.name=nm)
def mG (c:aF)(f:Fr)(e:aV):Bool:=(decide (c.fm=1)&&decide (f.nm=e.name)&&decide (f.id=0))||(decide (c.fm≠1)&&decide (f.id=e.id)&&decide (f.nm.size=0))
def fU (c:aF)(l:List aV)(f:Fr):Option aV:=l.find? (mG c f)
def bU (c:aF)(t:Ty)(x:It):ByteArray×Int:=if c.fm=1 then mn t x c.it else(if gD t x c.de c.it=0 then⟨x.fB.toArray⟩else⟨#[]⟩,gD t x c.de c.it)
def dy (c:aF)(t:Ty)(s:ByteArray):Int×It:=if c.fm=1 then jL t s c.it else(kr t s c.de c.it,qK t s c.de c.it)
def bB (c:aF)(l:List aV)(nm:ByteArray)(x:It):Fr×Int:=match fE l nm with
 |none=>(oR,11)
 |some e=>if(bU c e.shape x).2≠0 then(oR,(bU c e.shape x).2)else if c.fm=1 then(⟨0,e.name,(bU c e.shape x).1⟩,0)else(⟨e.id,ByteArray.empty,(bU c e.shape x).1⟩,0)
structure Ms where
 name:ByteArray
 x:It
def sI :Ms:=⟨ByteArray.empty,kG⟩
def eX (c:aF)(l:List aV)(f:Fr):Int×Ms:=match fU c l f with
 |none=>(11,sI)
 |some e=>if(dy c e.shape f.body).1=0 then(0,⟨e.name,(dy c e.shape f.body).2⟩)else if(dy c e.shape f.body).1=2 then(3,sI)else((dy c e.shape f.body).1,sI)
structure ch (c:aF)(l:List aV):Prop where
 may:∀e∈l,ca e.name=true
 ty:∀e∈l,cO e.ty.data.toList=some e.shape
 flat:c.fm=1->∀e∈l,e.shape.flat=true
 names:∀i j (hi:i<l.length) (hj:j<l.length),l[i].name=l[j].name->i=j
 ids:∀i j (hi:i<l.length) (hj:j<l.length),l[i].id=l[j].id->i=j
theorem ch.nil (c:aF):ch c []:=⟨by simp,by simp,by simp,by simp,by simp⟩
theorem CS {c:aF}{seen:List aV}{e:aV}(h:fQ c seen e=0):ca e.name=true/\(∀x∈seen,x.name≠e.name)/\(∀x∈seen,x.id≠e.id)/\cO e.ty.data.toList=some e.shape/\(c.fm=1->e.shape.flat=true):=by
 unfold fQ at h;by_cases i:ca e.name=false
 ·rw[zg i]at h;cases h
 rw[zf i]at h;by_cases j:(seen.any fun x=>decide (x.name=e.name))=true
 ·rw[zg j]at h;cases h
 rw[zf j]at h;by_cases b:(seen.any fun x=>decide (x.id=e.id))=true
 ·rw[zg b]at h;cases h
 rw[zf b]at h;by_cases k:cO e.ty.data.toList=none
 ·rw[zg k]at h;cases h
 rw[zf k]at h;by_cases l:c.fm=1/\e.shape.flat=false
 ·rw[zg l]at h;cases h
 refine⟨by simpa using i,fun x hx d=>j (Zg.2 ⟨x,hx,zD d⟩),fun x hx d=>b (Zg.2 ⟨x,hx,zD d⟩), ?_,fun n=> ?_⟩
 ·obtain⟨t,m⟩:=Option.ne_none_iff_exists'.1 k;unfold aV.shape;rw[m];rfl
 cases hf:e.shape.flat with
 |true=>rfl
 |false=>exact absurd ⟨n,hf⟩ l
theorem ch.snoc {c:aF}{l:List aV}{e:aV}(h:ch c l)(s:fQ c l e=0):ch c (l++ [e]):=by
 obtain⟨u,w,q,y,r⟩:=CS s;have key:∀{p:Type} (f:aV->p),(∀x∈l,f x≠f e)->(∀i j (hi:i<l.length) (k:j<l.length),f l[i]=f l[j]->i=j)->∀i j (hi:i<(l++ [e]).length) (k:j<(l++ [e]).length),f (l++ [e])[i]=f (l++ [e])[j]->i=j:=by
  intro p f n z i j hi k b;simp only[zh,yI]at hi k;by_cases m:i<l.length
  ·rw[xL m]at b;by_cases d:j<l.length
   ·rw[xL d]at b;exact z i j m d b
   obtain rfl:j=l.length:=by omega
   rw[List.getElem_concat_length rfl]at b;exact absurd b (n _ (zA m))
  obtain rfl:i=l.length:=by omega
  rw[List.getElem_concat_length rfl]at b;by_cases d:j<l.length
  ·rw[xL d]at b;exact absurd b.symm (n _ (zA d))
  omega
 refine⟨fun x hx=> ?_,fun x hx=> ?_,fun o x hx=> ?_,key (·.name) w h.names,key (·.id) q h.ids⟩
 ·rcases yA.1 hx with hx|hx
  ·exact h.may x hx
  obtain rfl:=yE.1 hx;exact u
 ·rcases yA.1 hx with hx|hx
  ·exact h.ty x hx
  obtain rfl:=yE.1 hx;exact y
 rcases yA.1 hx with hx|hx
 ·exact h.flat o x hx
 obtain rfl:=yE.1 hx;exact r o
theorem Gp {c:aF}:∀(r seen:List aV),ch c seen->iO c seen r=0->ch c (seen++r)
 | [],seen,h,_=>by simpa using h
 |e::r,seen,h,hz=>by
  rw[iO]at hz;by_cases he:fQ c seen e=0
  ·rw[zf (by simp[he])]at hz;have:=Gp r (seen++ [e]) (h.snoc he) hz;rwa [zB,ZH]at this
  rw[zg he]at hz;exact absurd hz he
theorem CT {c:aF}{l:List aV}(h:mF c l=0):c.right=true/\l.length<=32/\ch c l:=by
 unfold mF at h;cases hr:c.right with
 |false=>rw[zg hr]at h;cases h
 |true=>
  rw[zf (by simp[hr])]at h;by_cases b:32<l.length
  ·rw[zg b]at h;cases h
  rw[zf b]at h;exact⟨rfl,by omega,by simpa using Gp l [] (ch.nil c) h⟩
open Go.RowKit
def mE :List (Value×Value)->Nat->List MapEntry
 | [],_=> []
 |x::xs,b=>⟨x.1,x.2,b⟩::mE xs (b+1)
theorem CU :∀(l m:List (Value×Value)) (b:Nat),mE (l++m) b=mE l b++mE m (b+l.length)
 | [],m,b=>by simp[mE]
 |x::xs,m,b=>by simp only[zT,mE,CU xs m,zx];rw[show b+1+xs.length=b+(xs.length+1)from by omega]
theorem LW :∀(l:List (Value×Value)) (b j:Nat),(mE l b)[j]?=(l[j]?).map fun x=>⟨x.1,x.2,b+j⟩
 | [],b,j=>by simp[mE]
 |x::xs,b,0=>by simp[mE]
 |x::xs,b,j+1=>by simp only[mE,List.getElem?_cons_succ,LW xs];rw[show b+1+j=b+(j+1)from by omega]
theorem aai {l:List (Value×Value)}{b:Nat}{e:MapEntry}(h:e∈mE l b):∃x∈l,e.key=x.1/\e.val=x.2:=by
 obtain⟨j,c⟩:=List.getElem?_of_mem h;rw[LW]at c;cases hl:l[j]? with
 |none=>rw[hl]at c;cases c
 |some x=>
  rw[hl]at c;injection c with c;subst c;exact⟨x,xf hl,rfl,rfl⟩
theorem LY {d:TypeDesc}{k:Value}(n:MapKept.IsKey d k)(l:List (Value×Value))(p:∀x∈l,MapKept.IsKey d x.1):
 (Instr.findNow d k (mE l 0) 0=some none/\∀x∈l,x.1≠k)\/∃j x,Instr.findNow d k (mE l 0) 0=some (some (j,x.2))/\l[j]?=some x/\x.1=k:=by
 rcases MapKept.findNow_spec n (mE l 0) 0 (fun e m=>by obtain⟨x,hx,c,_⟩:=aai m;rw[c];exact p x hx)with⟨c,b⟩|⟨j,e,c,b,h⟩
 ·refine .inl ⟨c,fun x hx=> ?_⟩;obtain⟨j,o⟩:=List.getElem?_of_mem hx;have h:=b ⟨x.1,x.2,0+j⟩ (xf (i:=j) (by rw[LW,o];rfl));exact h
 rw[LW]at b;cases s8:l[j]? with
 |none=>rw[s8]at b;cases b
 |some x=>
  rw[s8]at b;injection b with b;subst b;exact .inr ⟨j,x,by rw[c,zK],s8,h⟩
section
variable {P:Program} {w:World} {g c:Nat} {T K E:TypeId} {d:TypeDesc} {k:Value} {es:List MapEntry}
def jn (w:World)(g:Nat)(l:List (Value×Value)):Prop:=w.heap[g]?=some (.map (mE l 0).toArray l.length)
theorem jn.lt {l:List (Value×Value)}(h:jn w g l):g<w.heap.size:=yp h
theorem Gq {l:List (Value×Value)}(c:jn w g l)(i:P.underlying T=some (.map K E))(b:P.underlying K=some d)(e:MapKept.IsKey d k)(h:Instr.findNow d k (mE l 0) 0=some (some (j,v))):
 (Instr.lookup T (.map (some g)) k true).run P w= .ok (.tuple #[v,true]) w:=by
 simp[Instr.lookup,xX i,xQ c,Zb b e,Zn b h,Result.andThen]
theorem LZ {l:List (Value×Value)}(e:jn w g l)(i:P.underlying T=some (.map K E))(b:P.underlying K=some d)(c:MapKept.IsKey d k)(h:Instr.findNow d k (mE l 0) 0=some none){z:Value}(hz:(zeroValue E).run P w= .ok z w):
 (Instr.lookup T (.map (some g)) k true).run P w= .ok (.tuple #[z,false]) w:=by
 simp[Instr.lookup,xX i,xQ e,Zb b c,Zn b h,Result.andThen,hz]
def o4 (w:World)(g:Nat)(l:List (Value×Value))(k v:Value):World:={w with heap:=w.heap.setIfInBounds g (.map (mE (l++ [(k,v)]) 0).toArray (l.length+1))}
theorem L3 {l:List (Value×Value)}(b:jn w g l)(j:P.underlying T=some (.map K E))(c:P.underlying K=some d)(e:MapKept.IsKey d k)(h:Instr.findNow d k (mE l 0) 0=some none)(v:Value):
 (Instr.mapUpdate T (.map (some g)) k v).run P w= .ok () (o4 w g l k v):=by
 have i:(mE l 0).toArray.push ⟨k,v,l.length⟩=(mE (l++ [(k,v)]) 0).toArray:=by rw[CU];simp[mE]
 simp[Instr.mapUpdate,xX j,xQ b,Zb c e,Zn c h,Result.andThen,MapKept.run_setObj_map _ b];unfold o4;rw[<-i];simp
theorem tL {l:List (Value×Value)}(b:jn w g l)(k v:Value):jn (o4 w g l k v) g (l++ [(k,v)]):=by
 unfold jn o4;simp only[zh,yI];exact(MapKept.heap_set b).1
theorem wN (w:World)(g:Nat)(l:List (Value×Value))(k v:Value):ae [g] w (o4 w g l k v):=
 ⟨rfl,rfl,rfl,by simp[o4],fun j _ b=>by
  have c:g≠j:=fun e=>b (by simp[e])
  show(w.heap.setIfInBounds g _)[j]?=_
  simp[c]⟩
theorem jn.only {l:List (Value×Value)}{L:List Nat}(h:jn w g l)(c:ae L w w')(b:g∉L):jn w' g l:=(c.block g h.lt b).trans h
theorem jn.below {l:List (Value×Value)}(h:jn w g l)(c:Below B w w')(b:g<B):jn w' g l:=(c.block g b).trans h
theorem jn.new (w:World):jn (w.alloc (.map #[] 0)) w.heap.size []:=yK w _
end
abbrev bY :=aV×Value
def BJ (l:List bY):List (Value×Value):=l.map fun r=>(.string r.1.name,r.2)
def BK (l:List bY):List (Value×Value):=l.map fun r=>(.int .u64 r.1.id,r.2)
def aJ (l:List bY):List aV:=l.map (·.1)
theorem Vl (l:List bY):∀x∈BJ l,MapKept.IsKey .string x.1:=by
 intro x hx;obtain⟨r,_,rfl⟩:=xI.1 hx;simp[MapKept.IsKey]
theorem Vm (l:List bY):∀x∈BK l,MapKept.IsKey (.int .u64) x.1:=by
 intro x hx;obtain⟨r,_,rfl⟩:=xI.1 hx;simp[MapKept.IsKey]
theorem jo {l:List aV}{p:aV->Bool}(h:∀e∈l,p e=false):l.find? p=none:=List.find?_eq_none.2 fun e b=>by simp[h e b]
theorem jq {l:List aV}{p:aV->Bool}{e:aV}(b:l[j]?=some e)(c:p e=true)(hu:∀i (x:aV),l[i]?=some x->p x=true->i=j):l.find? p=some e:=by
 cases h:l.find? p with
 |none=>exact absurd c (List.find?_eq_none.1 h e (xf b))
 |some x=>
  have hx:=YH h;obtain⟨i,hi⟩:=List.getElem?_of_mem (Zl h);have:=hu i x hi hx;subst this;rw[hi]at b;exact b
theorem CV {l:List aV}{x:aV}(h:l[i]?=some x):∃hi:i<l.length,l[i]=x:=by
 obtain⟨hi,e⟩:=yR.1 h;exact⟨hi,e⟩
theorem CW {c:aF}{l:List bY}(h:ch c (aJ l))(nm:ByteArray):
 (Instr.findNow .string nm (mE (BJ l) 0) 0=some none/\fE (aJ l) nm=none)\/∃(j:Nat) (r:bY),Instr.findNow .string nm (mE (BJ l) 0) 0=some (some (j,r.2))/\l[j]?=some r/\r.1.name=nm/\fE (aJ l) nm=some r.1:=by
 rcases LY (d:= .string) (k:=nm) (by simp[MapKept.IsKey]) (BJ l) (Vl l)with⟨n,b⟩|⟨j,x,n,b,q⟩
 ·refine .inl ⟨n,jo fun e u=>zt fun m=> ?_⟩;obtain⟨r,s,rfl⟩:=xI.1 u;exact b (.string r.1.name,r.2) (xI.2 ⟨r,s,rfl⟩) (by rw[m])
 unfold BJ at b;rw[xV]at b;cases hl:l[j]? with
 |none=>rw[hl]at b;cases b
 |some r=>
  rw[hl]at b;injection b with b;subst b;have m:r.1.name=nm:=by injection q
  have o:(aJ l)[j]?=some r.1:=by unfold aJ;rw[xV,hl];rfl
  refine .inr ⟨j,r,n,hl,m,jq o (zD m) fun i x hi hx=> ?_⟩;obtain⟨z,w⟩:=CV hi;obtain⟨y,p⟩:=CV o;exact h.names i j z y (by rw[w,p,m];exact zX hx)
theorem L5 {c:aF}{l:List bY}(h:ch c (aJ l))(id:Nat)(p:aV->Bool)(n:∀e,p e=decide (e.id=id)):
 (Instr.findNow (.int .u64) (.int .u64 id) (mE (BK l) 0) 0=some none/\(aJ l).find? p=none)\/∃(j:Nat) (r:bY),Instr.findNow (.int .u64) (.int .u64 id) (mE (BK l) 0) 0=some (some (j,r.2))/\l[j]?=some r/\r.1.id=id/\(aJ l).find? p=some r.1:=by
 rcases LY (d:= .int .u64) (k:= .int .u64 id) (by simp[MapKept.IsKey]) (BK l) (Vm l)with⟨o,b⟩|⟨j,x,o,b,q⟩
 ·refine .inl ⟨o,jo fun e y=>by
   rw[n];refine zt fun m=> ?_
   obtain⟨r,w,rfl⟩:=xI.1 y;exact b (.int .u64 r.1.id,r.2) (xI.2 ⟨r,w,rfl⟩) (by rw[m])⟩
 unfold BK at b;rw[xV]at b;cases hl:l[j]? with
 |none=>rw[hl]at b;cases b
 |some r=>
  rw[hl]at b;injection b with b;subst b;have m:r.1.id=id:=by injection q with _ q;omega
  have s:(aJ l)[j]?=some r.1:=by unfold aJ;rw[xV,hl];rfl
  refine .inr ⟨j,r,o,hl,m,jq s (by rw[n];exact zD m) fun i x hi hx=> ?_⟩;obtain⟨B,z⟩:=CV hi;obtain⟨A,u⟩:=CV s;rw[n]at hx;exact h.ids i j B A (by rw[z,u,m];exact zX hx)
theorem D0 {c:aF}(h:c.fm=1)(l:List aV)(f:Fr):fU c l f=if f.id=0 then fE l f.nm else none:=by
 unfold fU fE;by_cases b:f.id=0
 ·rw[zg b];congr 1
  funext e
  simp[mG,h,b,eq_comm]
 rw[zf b];exact jo fun e _=>by simp[mG,h,b]
theorem JO {c:aF}(h:c.fm≠1)(l:List aV)(f:Fr)(b:f.nm.size≠0):fU c l f=none:=jo fun e _=>by simp[mG,h,b]
theorem Vn {c:aF}(h:c.fm≠1)(f:Fr)(b:f.nm.size=0)(e:aV):mG c f e=decide (e.id=f.id):=by simp[mG,h,b,eq_comm]
theorem Gr {l:List aV}{p:aV->Bool}(h:l.find? p=none):l.any p=false:=xW.2 fun e b=>by simpa using List.find?_eq_none.1 h e b
theorem Gs {l:List aV}{p:aV->Bool}{e:aV}(h:l.find? p=some e):l.any p=true:=Zg.2 ⟨e,Zl h,YH h⟩
theorem ks {l:List aV}{e:aV}(h:fE l nm=some e):e∈l/\e.name=nm:=⟨Zl h,zX (YH (p:=fun x:aV=>decide (x.name=nm)) h)⟩
theorem D4 {c:aF}{l:List aV}{e:aV}(h:fU c l f=some e):e∈l/\mG c f e=true:=⟨Zl h,YH h⟩
theorem Oa {c:aF}{l:List aV}(h:ch c l){e:aV}(d:e∈l):fE l e.name=some e:=by
 obtain⟨j,b,rfl⟩:=yS d;refine jq (zr b) (zD rfl) fun i x hi hx=> ?_
 obtain⟨m,k⟩:=CV hi;exact h.names i j m b (by rw[k];exact zX hx)
theorem wO {c:aF}{l:List aV}(h:ch c l){e:aV}(q:e∈l)(b:mG c f e=true):fU c l f=some e:=by
 obtain⟨j,m,rfl⟩:=yS q;refine jq (zr m) b fun i x hi hx=> ?_
 obtain⟨p,o⟩:=CV hi;by_cases d:c.fm=1
 ·have n:f.nm=x.name:=by simp[mG,d]at hx;exact hx.1
  have k:f.nm=l[j].name:=by simp[mG,d]at b;exact b.1
  exact h.names i j p m (by rw[o,<-n,k])
 have n:f.id=x.id:=by simp[mG,d]at hx;exact hx.1
 have k:f.id=l[j].id:=by simp[mG,d]at b;exact b.1
 exact h.ids i j p m (by rw[o,<-n,k])
theorem BL (h:s.size=0):s=ByteArray.empty:=aE (by
 have:s.data.toList.length=0:=by rw[aa];exact h
 rw[zk this];rfl)
theorem Ob {c:aF}(h:c.fm=1){e:aV}(d:mG c f e=true):f=⟨0,e.name,f.body⟩:=by
 obtain⟨i,n,b⟩:=f;simp[mG,h]at d;obtain⟨rfl,rfl⟩:=d;rfl
theorem JP {c:aF}(h:c.fm≠1){e:aV}(j:mG c f e=true):f=⟨e.id,ByteArray.empty,f.body⟩:=by
 obtain⟨i,n,b⟩:=f;simp[mG,h]at j;obtain⟨rfl,d⟩:=j;rw[show n=ByteArray.empty from by first|exact d|exact BL d]
theorem wP (x:It):(⟨x.fB.toArray⟩:ByteArray).data.toList=x.fB:=by simp
theorem o5 (h:l=s.data.toList):(⟨l.toArray⟩:ByteArray)=s:=aE (by simp[h])
theorem sJ {c:aF}(b:c.fm≠1)(h:(bU c t x).2=0)(hz:x.fB.length<18446744073709551616):dy c t (bU c t x).1=(0,x)/\(bU c t x).1=⟨x.fB.toArray⟩:=by
 unfold bU at h⊢;rw[zf b]at h⊢;simp only at h⊢;rw[zg h];refine⟨?_,rfl⟩;obtain⟨d,a2⟩:=DY t x c.de c.it h ⟨x.fB.toArray⟩ (wP x) (by rw[<-aa,wP];exact hz);unfold dy;rw[zf b,d];unfold qK;rw[zf (by simp[d]),a2]
theorem Oc {c:aF}(h:(dy c t s).1=0):bU c t (dy c t s).2=(s,0):=by
 unfold dy at h⊢;by_cases b:c.fm=1
 ·rw[zg b]at h⊢;obtain⟨d,a2⟩:=JM t s c.it h;unfold bU;rw[zg b];unfold mn;rw[zg d,o5 a2]
 rw[zf b]at h⊢;simp only at h⊢;obtain⟨d,a2⟩:=DZ t s c.de c.it h;have e:qK t s c.de c.it=ja c.de c.it s:=by unfold qK;rw[zf (by simp[h])]
 rw[e];unfold bU;rw[zf b,zg d,d,o5 a2]
theorem k8 {c:aF}{l:List aV}(h:(bB c l nm x).2=0):∃e,fE l nm=some e/\(bU c e.shape x).2=0/\(bB c l nm x).1=if c.fm=1 then⟨0,e.name,(bU c e.shape x).1⟩else⟨e.id,ByteArray.empty,(bU c e.shape x).1⟩:=by
 unfold bB at h⊢;cases hb:fE l nm with
 |none=>rw[hb]at h;cases h
 |some e=>
  rw[hb]at h;simp only at h⊢;by_cases b:(bU c e.shape x).2≠0
  ·rw[zg b]at h;exact absurd h b
  rw[zf b]at h⊢;exact⟨e,rfl,zC.1 b,by split<;>rfl⟩
theorem JQ {c:aF}{l:List aV}(d:ch c l)(b:c.fm≠1)(h:(bB c l nm x).2=0)(hz:x.fB.length<18446744073709551616):eX c l (bB c l nm x).1=(0,⟨nm,x⟩):=by
 obtain⟨e,k,m,i⟩:=k8 h;obtain⟨j,rfl⟩:=ks k;obtain⟨n,_⟩:=sJ b m hz;rw[i,zf b];unfold eX;rw[wO d j (by simp[mG,b])];simp only[n,xM]
theorem wQ {c:aF}{l:List aV}(j:ch c l)(h:(eX c l f).1=0):bB c l (eX c l f).2.name (eX c l f).2.x=(f,0):=by
 unfold eX at h⊢;cases hb:fU c l f with
 |none=>rw[hb]at h;cases h
 |some e=>
  rw[hb]at h;simp only at h⊢;by_cases b:(dy c e.shape f.body).1=0
  ·rw[zg b]at h⊢;obtain⟨k,i⟩:=D4 hb;have m:=Oc b;simp only;unfold bB;rw[Oa j k];simp only[m];rw[zf (by simp)];by_cases d:c.fm=1
   ·rw[zg d,<-Ob d i]
   rw[zf d,<-JP d i]
  rw[zf b]at h;split at h
  ·cases h
  exact absurd h b
theorem Od (c:aF)(l:List aV)(f:Fr):(eX c l f).1≠2:=by
 unfold eX;split
 ·simp
 split
 ·simp
 split
 ·simp
 assumption
theorem CX {c:aF}{l:List aV}(h:(bB c l nm x).2≠0):(bB c l nm x).1=oR:=by
 unfold bB at h⊢;split
 ·rfl
 rename_i e d
 rw[d]at h;simp only at h⊢;by_cases b:(bU c e.shape x).2≠0
 ·rw[zg b]
 rw[zf b]at h;split at h<;>exact absurd rfl h
theorem L6 {M:Int}:∀(b:List Ty) (s:List It) (m i n:Nat),(∀j (h:j<b.length),t.at (i+j)=b[j])->m<=s.length->s.length<=b.length->
 (∀j (c:j<s.length) (k:j<b.length),∀(n:Nat) (q:List UInt8),(n:Int)+(s[j]).count<=M->(b[j]).rd M n ((s[j]).lay (b[j])++q)=⟨0,s[j],n+(s[j]).count,q⟩)->(n:Int)+aC s<=M->
 (ox M b m n (cy s t i)).e=0/\(ox M b m n (cy s t i)).q= []
 | [],s,m,i,n,_,_,hs,_,_=>by
  obtain rfl:s= []:=zk (by simpa using hs);simp[ox,cy]
 |a::b,[],m,i,n,_,hm,_,_,_=>by
  have l:m=0:=by simpa using hm
  subst l;simp[ox,cy]
 |a::b,x::xs,m,i,n,ha,hm,hs,hf,hM=>by
  simp only[aC]at hM;have d:=ha 0 (by simp);rw[xa]at d;have hx:=hf 0 (by simp) (by simp) n (cy xs t (i+1)) (by simp only[yQ];omega);simp only[yQ]at hx d;rw[cy,d,ox,hx];by_cases e:m=0/\x.lay a++cy xs t (i+1)= []
  ·rw[zg e];exact⟨rfl,e.2⟩
  rw[zf e];simp only[YC,yV,xO];exact L6 b xs (m-1) (i+1) (n+x.count) (fun j c=>by have:=ha (j+1) (by simpa using c);simpa[show i+(j+1)=i+1+j from by omega]using this) (by simp at hm;omega) (by simpa using hs)
   (fun j c k=>by have:=hf (j+1) (by simpa using c) (by simpa using k);simpa using this) (by omega)
theorem aaj (M:Int)(r:M<=1024)(x:It)(t:Ty)(n:Nat)(u:t.right=true)(d:cc t.sub=true)(hi:x.dF t=true)(hx:x.right=true)(c:(n:Int)+x.count<=M):(t.rd M n (x.lay t)).e=0/\(t.rd M n (x.lay t)).q= []:=by
 by_cases m:t.kind=5
 ·obtain⟨W,b,s⟩:=x;obtain⟨k,z,l,i⟩:=t;simp only[Ty.LB]at m;subst m;obtain⟨R,F⟩:=jJ u;obtain⟨N,H⟩:=ni hx;have G:=wJ H;have D:¬M<=(n:Int):=by simp only[It.count]at c;omega
  simp only[It.dF,zv]at hi;obtain⟨p,K⟩:=hi;have w:=k7 s _ 0 K;simp only[zK]at w;simp only[Ty.gK]at d;replace p:=qI p;obtain⟨rfl,L,S⟩:=p;have B:∀j (h:j<l.length),(Ty.mk 5 z l i).at (0+j)=l[j]:=fun j h=>by unfold Ty.at;simp[h]
  simp only[It.count]at c;rw[nz,vx D];exact L6 (M:=M) (t:= .mk 5 z l i) l s ((l.length:Int)-i).toNat 0 (n+1) B (by omega) L (fun j C e n q I=>by
   have J:=zA C;have o:=w j C;have A:=B j e;rw[zK]at A;rw[A]at o;have y:=Gi d j e;have E:=eK F j e;generalize l[j]=a at*;obtain⟨O,U,al,at_⟩:=a;exact Rh M r _ _ n q E (lT y).2 (ny y o q) o (G _ J) I) (by omega)
 have:=Rh M r x t n [] u d (fun h=>absurd h m) hi hx c;rw[yO]at this;rw[this];exact⟨rfl,rfl⟩
theorem Oe (t:Ty)(x:It)(M:Int)(h:iu t x M=0)(s:ByteArray)(k:s.data.toList=x.lay t):(jL t s M).1=0:=by
 obtain⟨c,i,o⟩:=sF h;obtain⟨_,d,_,_,m⟩:=jM c;obtain⟨_,n,e⟩:=sE i;obtain⟨l,p,q⟩:=tK n;have b:=aaj (min M 1024) (by omega) x t 0 d m e l (by omega);rw[<-k]at b;change(oS t s M).e=0/\(oS t s M).q= []at b
 have j:dk t s M=(0,(oS t s M).x,s.size):=by unfold dk;rw[zf (by simp[c]),zf (by simp[b.1]),b.2];simp
 unfold jL;rw[j];simp
def aQ (c:aF)(l:List aV)(s:ByteArray):Int×Ms×Nat×Nat:=
 if(bj c s).1≠0 then((bj c s).1,sI,(bj c s).2.2.1,(bj c s).2.2.2)else((eX c l (bj c s).2.1).1,(eX c l (bj c s).2.1).2,(bj c s).2.2.1,(bj c s).2.2.2)
theorem L7 {c:aF}{l:List aV}(h:(bj c s).1≠0):aQ c l s=((bj c s).1,sI,(bj c s).2.2.1,(bj c s).2.2.2):=by unfold aQ;rw[zg h]
theorem qL {c:aF}{l:List aV}(h:(bj c s).1=0):aQ c l s=((eX c l (bj c s).2.1).1,(eX c l (bj c s).2.1).2,(bj c s).2.2.1,(bj c s).2.2.2):=by unfold aQ;rw[zf (by simp[h])]
theorem k9 {c:aF}{l:List aV}:(aQ c l s).1=2↔(bj c s).1=2:=by
 by_cases h:(bj c s).1=0
 ·rw[qL h,h];exact⟨fun b=>absurd b (Od _ _ _),(by intro h;cases h)⟩
 rw[L7 h]
theorem CY {c:aF}{l:List aV}(h:(aQ c l s).1=0):(bj c s).1=0/\(eX c l (bj c s).2.1).1=0:=by
 by_cases b:(bj c s).1=0
 ·rw[qL b]at h;exact⟨b,h⟩
 rw[L7 b]at h;exact absurd h b
theorem lW (c:aF)(l:List aV)(s:ByteArray):(aQ c l s).2.2=(bj c s).2.2:=by unfold aQ;split<;>rfl
theorem dz (c:aF)(l:List aV):mT (aQ c l):=by
 have b:=wH c;refine⟨fun s h=> ?_,fun s t h=> ?_,fun s h=> ?_⟩
 ·have:=b.pos s (CY h).1;rw[lW];exact this
 ·have e:=b.ext s t (fun d=>h (k9.2 d));unfold aQ;rw[e]
 rw[lW];exact b.short s (k9.1 h)
theorem oz {c:aF}(b:c.right=true)(l:List aV):(aQ c l ByteArray.empty).1=2:=k9.2 (JD b)
def bw (c:aF)(l:List aV)(nm:ByteArray)(x:It):ByteArray×Int:=if(bB c l nm x).2≠0 then(ByteArray.empty,(bB c l nm x).2)else gQ c (bB c l nm x).1
theorem Gt {c:aF}{l:List aV}(h:(bw c l nm x).2=0):(bB c l nm x).2=0/\bw c l nm x=gQ c (bB c l nm x).1:=by
 unfold bw at h⊢;by_cases b:(bB c l nm x).2≠0
 ·rw[zg b]at h;exact absurd h b
 rw[zf b];exact⟨zC.1 b,rfl⟩
theorem Gu {c:aF}(h:(gQ c f).2≠0):(gQ c f).1=ByteArray.empty:=by
 unfold gQ at h⊢;split
 ·split
  ·rfl
  split
  ·rfl
  rename_i b e d
  rw[zg b,zf e,zf d]at h;exact absurd rfl h
 rfl
theorem Of {c:aF}{l:List aV}(h:(bw c l nm x).2≠0):(bw c l nm x).1=ByteArray.empty:=by
 unfold bw at h⊢;by_cases b:(bB c l nm x).2≠0
 ·rw[zg b]
 rw[zf b]at h⊢;exact Gu h
def Gv (l:List aV):Prop:=∀e∈l,e.id<18446744073709551616
theorem Gw {c:aF}{l:List aV}(hid:Gv l)(h:(bB c l nm x).2=0):(bB c l nm x).1.id<18446744073709551616:=by
 obtain⟨e,b,_,d⟩:=k8 h;rw[d];split
 ·simp
 exact hid e (ks b).1
theorem Vo {c:aF}{l:List aV}(j:ch c l)(h:(bB c l nm x).2=0)(hz:x.fB.length<18446744073709551616):
 ∃y,eX c l (bB c l nm x).1=(0,⟨nm,y⟩)/\(c.fm≠1->y=x)/\bB c l nm y=((bB c l nm x).1,0):=by
 by_cases b:c.fm=1
 ·obtain⟨e,o,d,k⟩:=k8 h;obtain⟨m,rfl⟩:=ks o;rw[zg b]at k;have p:fU c l (bB c l e.name x).1=some e:=wO j m (by rw[k];simp[mG,b]);have n:(dy c e.shape (bU c e.shape x).1).1=0:=by
   unfold bU at d⊢;rw[zg b]at d⊢;unfold dy;rw[zg b];unfold mn at d⊢;by_cases i:iu e.shape x c.it=0
   ·rw[zg i];exact Oe e.shape x c.it i _ (by simp)
   rw[zf i]at d;exact absurd d i
  have hd:eX c l (bB c l e.name x).1=(0,⟨e.name,(dy c e.shape (bU c e.shape x).1).2⟩):=by
   unfold eX;rw[p];simp only[k,n,xM]
  refine⟨_,hd,fun h=>absurd b h, ?_⟩;have:=wQ j (f:=(bB c l e.name x).1) (by rw[hd]);rw[hd]at this;exact this
 have hd:=JQ j b h hz;refine⟨x,hd,fun _=>rfl,ZT rfl h⟩
theorem Vp {c:aF}{l:List aV}(d:c.right=true)(n:ch c l)(hid:Gv l)(h:(bw c l nm x).2=0)(hz:x.fB.length<18446744073709551616):
 ∃y k,(∀T,aQ c l ((bw c l nm x).1++T)=(0,⟨nm,y⟩,(bw c l nm x).1.size,k))/\(c.fm≠1->y=x)/\bw c l nm y=bw c l nm x:=by
 obtain⟨i,j⟩:=Gt h;obtain⟨y,hd,r,p⟩:=Vo n i hz;have o:gQ c (bB c l nm x).1=((bw c l nm x).1,0):=by rw[<-j];exact ZT rfl h
 have q:=fun T=>(Q8 (Gw hid i) o T).1
 obtain⟨k,b⟩:=q ByteArray.empty;have m:∀T,bj c ((bw c l nm x).1++T)=(0,(bB c l nm x).1,(bw c l nm x).1.size,k):=fun T=>by
  have e:=(wH c).ext (bw c l nm x).1 T (by rw[cE d];rw[iL]at b;rw[b];simp);rw[e,cE d];rw[iL]at b;exact b
 refine⟨y,k,fun T=> ?_,r, ?_⟩
 ·rw[qL (by rw[m]),m,hd]
 rw[j];unfold bw;rw[p,zf (by simp)]
theorem wR {c:aF}{l:List aV}(b:c.right=true)(e:ch c l)(hid:Gv l)(h:(bw c l nm x).2=0)(hz:x.fB.length<18446744073709551616):
 ∃y k,(∀T,split (aQ c l) ((bw c l nm x).1++T)=(split (aQ c l) T).cons ⟨nm,y⟩ k)/\split (aQ c l) (bw c l nm x).1=([⟨nm,y⟩],ByteArray.empty,k,0)/\(c.fm≠1->y=x)/\bw c l nm y=bw c l nm x:=by
 obtain⟨y,k,d,j,i⟩:=Vp b e hid h hz;have key:∀T,split (aQ c l) ((bw c l nm x).1++T)=(split (aQ c l) T).cons ⟨nm,y⟩ k:=fun T=>by
  rw[iF (dz c l) (by rw[d]),d];simp only;rw[Ly _ _ _ (ze _)];have:(bw c l nm x).1.extract (bw c l nm x).1.size (bw c l nm x).1.size++T=T:=by
   apply aE;rw[aX,aq,cQ,zL (by rw[aa];exact ze _),yo]
  rw[this]
 refine⟨y,k,key, ?_,j,i⟩;have:=key ByteArray.empty;rw[iL,dv (dz c l) (oz b l)]at this;rw[this];rfl
theorem CZ (c:aF)(s:ByteArray):(bj c s).2.2.2<=65536:=by
 unfold bj;by_cases b:c.right=true
 ·rw[zg b];have:=(c.ik).1 b;unfold bD;split
  ·exact ya _
  split
  ·exact ya _
  show(aT c.fr c.un s).2.2.2.2<=65536
  rw[bP];split
  ·exact ya _
  split
  ·exact ya _
  split
  ·exact ya _
  rename_i h
  split
  ·show(aB (an c.fr s).2.2.1).1<=65536;omega
  show(aB (an c.fr s).2.2.1).1<=65536;omega
 rw[zf b];exact ya _
theorem JR (c:aF)(s:ByteArray)(d:s.size<=1099511627776):(bj c s).2.1.body.size<=1099511627776:=by
 by_cases b:c.right=true
 ·have h:=(c.ik).1 b;rw[cE b];have:=(N3 c s).2;omega
 have e:bj c s=(1,oR,0,0):=by unfold bj;rw[zf b]
 rw[e];exact ya _
structure tM {α:Type}(nx:Nx α)(x:gW)(s:ByteArray)(l:List α):Prop where
 fault:x.fault=(split nx s).2.2.2
 told:l=(split nx s).1
 buf:x.fault=0->x.buf=(split nx s).2.1
theorem tM.new {c:Type}{b:Nx c}(h:mT b)(d:(b ByteArray.empty).1=2):tM b gW.new ByteArray.empty ([]:List c):=by
 have:=dv h d;exact⟨by rw[this];rfl,by rw[this],fun _=>by rw[this];rfl⟩
theorem tM.kT {d:Type}{c:Nx d}(h:mT c){x:gW}{l:List d}(hx:tM c x s l)(t:ByteArray):tM c (kT c x t).1 (s++t) (l++(kT c x t).2.1):=by
 by_cases b:x.fault=0
 ·have e:=lL h s t (by rw[<-hx.fault];exact b);rw[gA b,hx.buf b,hx.told];exact⟨by rw[e],by rw[e],fun _=>by rw[e]⟩
 have e:=pA h s t;rw[zf (by rw[<-hx.fault];exact b)]at e;rw[jF b,hx.told];exact⟨by rw[e];exact hx.fault,by rw[e];simp,fun i=>absurd i b⟩
theorem tM.same {c:Type}{d:Nx c}{x y:gW}{l m:List c}(hx:tM d x s l)(b:tM d y s m):l=m/\x.fault=y.fault/\(x.fault=0->x.buf=y.buf):=
 ⟨hx.told.trans b.told.symm,hx.fault.trans b.fault.symm,fun h=>(hx.buf h).trans (b.buf (by rw[b.fault,<-hx.fault];exact h)).symm⟩
theorem Rs (c:aF)(l:List aV)(s:ByteArray):(split (aQ c l) s).1.length<=s.size:=by
 induction s using kS (dz c l)with
 |stop s h0=>rw[jE (dz c l),zf h0];simp
 |go s h0 ih=>
  obtain⟨b,d⟩:=(dz c l).pos s h0;have hz:(s.extract (aQ c l s).2.2.1 s.size).size=s.size-(aQ c l s).2.2.1:=ar _ _ _ (ze _);rw[iF (dz c l) h0];show(_::_).length<=_
  simp only[zx];omega
theorem JS (c:aF)(l:List aV)(s:ByteArray):(split (aQ c l) s).2.1.size<=s.size:=by
 obtain⟨k,b,e⟩:=uF (dz c l) s;rw[e,ar _ _ _ (ze _)];omega
theorem aak (c:aF)(l:List aV)(s:ByteArray):(split (aQ c l) s).2.2.1<=65536*(s.size+1):=by
 have h:=dz c l;have b:∀s,(aQ c l s).2.2.2<=65536:=fun s=>by rw[lW];exact CZ c s
 induction s using kS h with
 |stop s h0=>
  rw[jE h,zf h0];have:=b s;show(aQ c l s).2.2.2<=_
  omega
 |go s h0 ih=>
  rw[iF h h0];obtain⟨d,e⟩:=h.pos s h0;have i:=oo s _ d e;have:=b s;show(aQ c l s).2.2.2+(split (aQ c l) (s.extract (aQ c l s).2.2.1 s.size)).2.2.1<=_
  have:65536*((s.extract (aQ c l s).2.2.1 s.size).size+1)<=65536*s.size:=Nat.mul_le_mul_left _ (by omega);omega
theorem lt_of_cell {w:World}{b:Nat}(h:w.cell? (b,o)=some v):b<w.heap.size:=by
 rcases xp b w.heap.size with h'|h'
 ·exact h'
 simp[World.cell?,xq h']at h
mutual
def bH (w:World)(B:Nat):It->Value->Value->Value->Prop
 | .mk t l s,c0,c1,c2=>c0= .string t/\c1= .bool l/\t.size<=9223372036854775807/\s.length<=9223372036854775807/\∃A cap,c2= .slice A s.length cap/\s.length<=cap/\cap<=9223372036854775807/\bN w B s A 0
def bN (w:World)(B:Nat):List It->Option Addr->Nat->Prop
 | [],_,_=>True
 |x::xs,A,i=>(∃b o c0 c1 c2,A=some ⟨b,o,none⟩/\b<B/\(w,b,o+i*3,c0)/\(w,b,o+i*3+1,c1)/\(w,b,o+i*3+2,c2)/\bH w B x c0 c1 c2)/\bN w B xs A (i+1)
end
theorem bN.at_ {w:World}:∀{s:List It} {i:Nat},bN w B s A i->∀(j:Nat) (h:j<s.length),∃b o d e c,A=some ⟨b,o,none⟩/\b<B/\(w,b,o+(i+j)*3,d)/\(w,b,o+(i+j)*3+1,e)/\(w,b,o+(i+j)*3+2,c)/\bH w B s[j] d e c
 | [],_,_,j,h=>by simp at h
 |x::xs,i,hi,0,_=>by simpa[bN]using hi.1
 |x::xs,i,hi,j+1,h=>by
  have:=bN.at_ hi.2 j (by simpa using h);rw[show i+1+j=i+(j+1)from by omega]at this;simpa using this
theorem bN.uK {w:World}:∀{s:List It} {i:Nat},(∀(j:Nat) (h:j<s.length),∃b o d e c,A=some ⟨b,o,none⟩/\b<B/\(w,b,o+(i+j)*3,d)/\(w,b,o+(i+j)*3+1,e)/\(w,b,o+(i+j)*3+2,c)/\bH w B s[j] d e c)->bN w B s A i
 | [],_,_=>by simp[bN]
 |x::xs,i,h=>by
  refine⟨h 0 (Yf _),bN.uK fun j k=> ?_⟩;have:=h (j+1) (by simpa using k);rw[show i+(j+1)=i+1+j from by omega]at this;simpa using this
theorem bH.open_ {w:World}{b d c:Value}(h:bH w B x b d c):∃A cap,b= .string x.text/\d= .bool x.list/\c= .slice A x.sub.length cap/\x.text.size<=9223372036854775807/\x.sub.length<=cap/\cap<=9223372036854775807/\bN w B x.sub A 0:=by
 cases x with
 |mk t l s=>
  obtain⟨m,j,i,p,A,cap,k,n,o,e⟩:=h;exact⟨A,cap,m,j,k,i,n,o,e⟩
theorem bH.ah {w:World}{m:Nat}(J:B<=m)(e:∀p:Addr,p.block<B->w'.cell? p=w.cell? p):∀(x:It) {c k i:Value},bH w B x c k i->bH w' m x c k i:=by
 intro x;induction x using It.ind with
 |h t l s ih=>
  intro c k i h;obtain⟨F,r,C,E,A,cap,I,G,u,q⟩:=h;refine⟨F,r,C,E,A,cap,I,G,u,bN.uK fun j n=> ?_⟩;obtain⟨b,o,d0,d1,d2,z,d,y,D,H,hi⟩:=q.at_ j n;exact⟨b,o,d0,d1,d2,z,by omega,(e _ d).trans y,(e _ d).trans D,(e _ d).trans H,ih _ (zA n) hi⟩
theorem bH.below {w:World}{b d c:Value}(h:bH w B x b d c)(i:Below B w w'):bH w' B x b d c:=bH.ah (ze _) (fun _ e=>i.cell e) x h
theorem bH.mono {w:World}{d:Nat}{b c:Value}(h:bH w B x b e c)(i:B<=d):bH w d x b e c:=bH.ah i (fun _ _=>rfl) x h
theorem bN.below {w:World}{s:List It}(h:bN w B s A i)(c:Below B w w'):bN w' B s A i:=bN.uK fun j n=>by
 obtain⟨b,o,d0,d1,d2,l,d,e,m,k,hi⟩:=h.at_ j n;exact⟨b,o,d0,d1,d2,l,d,(c.cell d).trans e,(c.cell d).trans m,(c.cell d).trans k,hi.below c⟩
theorem bH.one {w:World}{c d b:Value}(h:bH w B x c d b):c.oneCell'=true/\d.oneCell'=true/\b.oneCell'=true:=by
 obtain⟨A,cap,rfl,rfl,rfl,_⟩:=h.open_;exact⟨rfl,rfl,rfl⟩
def eY (w:World)(B:Nat):List It->List Value->Prop
 | [],cs=>cs= []
 |x::xs,cs=>∃c0 c1 c2 ds,cs=c0::c1::c2::ds/\bH w B x c0 c1 c2/\eY w B xs ds
theorem eY.length {w:World}:∀{s:List It} {b:List Value},eY w B s b->b.length=s.length*3
 | [],b,h=>by simp[eY]at h;simp[h]
 |x::xs,b,h=>by
  obtain⟨d,j,e,i,rfl,_,c⟩:=h;have:=c.length;simp only[zx,this];omega
theorem eY.one {w:World}:∀{s:List It} {b:List Value},eY w B s b->∀u∈b,u.oneCell'=true
 | [],b,h=>by simp[eY]at h;simp[h]
 |x::xs,b,h=>by
  obtain⟨j,m,k,l,rfl,d,e⟩:=h;have c:=d.one;have i:=e.one;intro u hu;simp only[yj]at hu;rcases hu with rfl|rfl|rfl|hu
  ·exact c.1
  ·exact c.2.1
  ·exact c.2.2
  exact i u hu
theorem eY.ah {w:World}{e:Nat}(c:B<=e)(d:∀p:Addr,p.block<B->w'.cell? p=w.cell? p):∀{s:List It} {b:List Value},eY w B s b->eY w' e s b
 | [],b,h=>h
 |x::xs,b,h=>by
  obtain⟨i,n,j,m,rfl,k,l⟩:=h;exact⟨i,n,j,m,rfl,bH.ah c d x k,l.ah c d⟩
theorem bN.cells {w:World}{b:Nat}:∀{s:List It} {i:Nat},bN w B s (some (b,o)) i->∃k,eY w B s k/\∀j u,k[j]?=some u->w.cell? (b,o+i*3+j)=some u
 | [],i,_=>⟨[],rfl,by simp⟩
 |x::xs,i,h=>by
  obtain⟨⟨A,z,d,m,e,c,_,n,q,p,hi⟩,r⟩:=h;injection c with c;injection c with hb ho;subst hb;subst ho;obtain⟨l,hd,y⟩:=r.cells;refine⟨d::m::e::l,⟨d,m,e,l,rfl,hi,hd⟩,fun j u hu=> ?_⟩;match j,hu with
  |0,hu=>simp at hu;subst hu;exact n
  |1,hu=>simp at hu;subst hu;exact q
  |2,hu=>simp at hu;subst hu;exact p
  |j+3,hu=>
   have:=y j u (by simpa using hu);rw[show o+i*3+(j+3)=o+(i+1)*3+j from by omega];exact this
theorem bN.dU {w:World}{b:Nat}(k:b<B):∀{s:List It} {i:Nat} {c:List Value},eY w B s c->(∀j u,c[j]?=some u->w.cell? (b,o+i*3+j)=some u)->bN w B s (some (b,o)) i
 | [],_,_,_,_=>trivial
 |x::xs,i,c,h,hc=>by
  obtain⟨d,l,e,p,rfl,m,n⟩:=h;refine⟨⟨b,o,d,l,e,rfl,k,by simpa using hc 0 d (by simp),hc 1 l (by simp),hc 2 e (by simp),m⟩,bN.dU k n fun j u hu=> ?_⟩;have:=hc (j+3) u (by simpa using hu);rw[show o+(i+1)*3+j=o+i*3+(j+3)from by omega];exact this
def mM (i:Int):Prop:= -9223372036854775808<=i/\i<=9223372036854775807
mutual
def cz (w:World)(B:Nat):Ty->Value->Value->Value->Value->Prop
 | .mk k s l t,c0,c1,c2,c3=>c0= .int .i64 k/\c1= .int .i64 s/\c3= .int .i64 t/\mM k/\mM s/\mM t/\l.length<=9223372036854775807/\∃A cap,c2= .slice A l.length cap/\l.length<=cap/\cap<=9223372036854775807/\eZ w B l A 0
def eZ (w:World)(B:Nat):List Ty->Option Addr->Nat->Prop
 | [],_,_=>True
 |x::xs,A,i=>(∃b o c0 c1 c2 c3,A=some ⟨b,o,none⟩/\b<B/\(w,b,o+i*4,c0)/\(w,b,o+i*4+1,c1)/\(w,b,o+i*4+2,c2)/\(w,b,o+i*4+3,c3)/\cz w B x c0 c1 c2 c3)/\eZ w B xs A (i+1)
end
theorem eZ.at_ {w:World}:∀{s:List Ty} {i:Nat},eZ w B s A i->∀(j:Nat) (h:j<s.length),∃b o e k c d,A=some ⟨b,o,none⟩/\b<B/\(w,b,o+(i+j)*4,e)/\(w,b,o+(i+j)*4+1,k)/\(w,b,o+(i+j)*4+2,c)/\(w,b,o+(i+j)*4+3,d)/\cz w B s[j] e k c d
 | [],_,_,j,h=>by simp at h
 |x::xs,i,hi,0,_=>by simpa[eZ]using hi.1
 |x::xs,i,hi,j+1,h=>by
  have:=eZ.at_ hi.2 j (by simpa using h);rw[show i+1+j=i+(j+1)from by omega]at this;simpa using this
theorem eZ.uK {w:World}:∀{s:List Ty} {i:Nat},(∀(j:Nat) (h:j<s.length),∃b o c k d e,A=some ⟨b,o,none⟩/\b<B/\(w,b,o+(i+j)*4,c)/\(w,b,o+(i+j)*4+1,k)/\(w,b,o+(i+j)*4+2,d)/\(w,b,o+(i+j)*4+3,e)/\cz w B s[j] c k d e)->eZ w B s A i
 | [],_,_=>by simp[eZ]
 |x::xs,i,h=>by
  refine⟨h 0 (Yf _),eZ.uK fun j l=> ?_⟩;have:=h (j+1) (by simpa using l);rw[show i+(j+1)=i+1+j from by omega]at this;simpa using this
theorem cz.open_ {w:World}{x:Ty}{b c d:Value}(h:cz w B x b e c d):∃A cap,b= .int .i64 x.kind/\e= .int .i64 x.size/\c= .slice A x.sub.length cap/\d= .int .i64 x.tail/\mM x.kind/\mM x.size/\mM x.tail/\x.sub.length<=cap/\cap<=9223372036854775807/\eZ w B x.sub A 0:=by
 cases x with
 |mk k s l t=>
  obtain⟨u,n,i,j,r,m,z,A,cap,o,y,q,p⟩:=h;exact⟨A,cap,u,n,o,i,j,r,m,y,q,p⟩
theorem cz.ah {w:World}{q:Nat}(R:B<=q)(d:∀p:Addr,p.block<B->w'.cell? p=w.cell? p):∀(x:Ty) {e n m i:Value},cz w B x e n m i->cz w' q x e n m i:=by
 intro x;induction x using Ty.ind with
 |h k s l t ih=>
  intro e n m i h;obtain⟨L,y,u,D,K,I,H,A,cap,O,M,C,G⟩:=h;refine⟨L,y,u,D,K,I,H,A,cap,O,M,C,eZ.uK fun j r=> ?_⟩;obtain⟨b,o,d0,d1,d2,d3,F,c,E,J,N,z,hi⟩:=G.at_ j r;exact⟨b,o,d0,d1,d2,d3,F,by omega,(d _ c).trans E,(d _ c).trans J,(d _ c).trans N,(d _ c).trans z,ih _ (zA r) hi⟩
theorem cz.below {w:World}{x:Ty}{b c d:Value}(h:cz w B x b e c d)(j:Below B w w'):cz w' B x b e c d:=cz.ah (ze _) (fun _ i=>j.cell i) x h
theorem cz.mono {w:World}{d:Nat}{x:Ty}{b i c:Value}(h:cz w B x b i c e)(j:B<=d):cz w d x b i c e:=cz.ah j (fun _ _=>rfl) x h
theorem eZ.ah {w:World}{e:Nat}(l:B<=e)(c:∀p:Addr,p.block<B->w'.cell? p=w.cell? p){s:List Ty}(h:eZ w B s A i):eZ w' e s A i:=eZ.uK fun j r=>by
 obtain⟨b,o,d0,d1,d2,d3,n,d,k,q,m,u,hi⟩:=h.at_ j r;exact⟨b,o,d0,d1,d2,d3,n,by omega,(c _ d).trans k,(c _ d).trans q,(c _ d).trans m,(c _ d).trans u,hi.ah l c⟩
theorem eZ.below {w:World}{s:List Ty}(h:eZ w B s A i)(c:Below B w w'):eZ w' B s A i:=h.ah (ze _) (fun _ b=>c.cell b)
theorem aY {w:World}{g:Nat}{t:TypeId}{b c d:Value}(h:af w g t #[a,b,c,d]):(w,g,0,a)/\(w,g,1,b)/\(w,g,2,c)/\(w,g,3,d)/\w.frozen? (g,0)=false/\w.frozen? (g,1)=false/\w.frozen? (g,2)=false/\w.frozen? (g,3)=false:=
 ⟨h.cell 0,h.cell 1,h.cell 2,h.cell 3,h.frozen 0,h.frozen 1,h.frozen 2,h.frozen 3⟩
theorem Og {w:World}{t:TypeId}{b c d:Value}(e:Below (w.heap.size+1) (w.alloc (.cells #[a,b,c,d] t)) w'):(w',w.heap.size,0,a)/\(w',w.heap.size,1,b)/\(w',w.heap.size,2,c)/\(w',w.heap.size,3,d):=by
 have i:=af.new w t #[a,b,c,d];have h:af w' w.heap.size t #[a,b,c,d]:=(e.block _ (by omega)).trans i;exact⟨h.cell 0,h.cell 1,h.cell 2,h.cell 3⟩
def Way (w:World)(base:Nat)(E:TypeId)(v:Value)(l:List UInt8):Prop:=
 ∃A cap,v= .slice A l.length cap/\l.length<=cap/\cap<=9223372036854775807/\
  ((A=none/\cap=0)\/∃g off cur fr,A=some ⟨g,off,none⟩/\base<=g/\w.heap[g]?=some (.cells cur E fr)/\off+cap<=cur.size/\(cur.toList.drop off).take l.length=cb l/\(fr.2=0\/cur.size<=fr.1))
theorem Way.nil (w:World)(base:Nat)(E:TypeId):Way w base E nS []:=⟨none,0,rfl,by simp,by simp,.inl ⟨rfl,rfl⟩⟩
theorem Way.bK {w:World}{E:TypeId}(h:Way w base E v l):∃A n cap,v= .slice A n cap/\Hid (n=l.length)/\n<=cap/\cap<=9223372036854775807:=by
 obtain⟨A,cap,b,d,c,_⟩:=h;exact⟨A,_,cap,b,za rfl,d,c⟩
theorem Way.ge {w:World}{E:TypeId}(h:Way w base E v l):∀g,v.ownBlock=some g->base<=g/\g<w.heap.size/\∃d c,w.heap[g]?=some (.cells d E c):=by
 obtain⟨A,cap,rfl,o,n,k⟩:=h;intro g i;rcases k with⟨b,_⟩|⟨j,off,d,c,b,m,e,_⟩
 ·subst b;cases i
 subst b;have:j=g:=by simpa[Value.ownBlock]using i
 subst this;exact⟨m,yp e,d,c,e⟩
theorem Way.cw {w:World}{E t:TypeId}{g:Nat}{j:Array Value}{i:Nat×Nat}(h:Way w base E v l)(d:w.heap[g]?=some (.cells j t i))(c:t≠E):v.ownBlock≠some g:=by
 intro e;obtain⟨_,_,k,m,b⟩:=h.ge g e;rw[d]at b;injection b with b;injection b with _ b;exact c b
theorem Way.ah {w:World}{E:TypeId}(h:Way w base E v l)(c:∀k,k<w.heap.size->v.ownBlock=some k->w'.heap[k]?=w.heap[k]?):Way w' base E v l:=by
 obtain⟨A,cap,rfl,e,d,b⟩:=h;refine⟨A,cap,rfl,e,d, ?_⟩;rcases b with b|⟨g,off,cur,fr,hA,hg,hh,r⟩
 ·exact .inl b
 exact .inr ⟨g,off,cur,fr,hA,hg,(c g (yp hh) (by subst hA;rfl)).trans hh,r⟩
theorem Way.mono {w:World}{c:Nat}{E:TypeId}(h:Way w base E v l)(j:c<=base):Way w c E v l:=by
 obtain⟨A,cap,e,i,d,b⟩:=h;refine⟨A,cap,e,i,d, ?_⟩;rcases b with b|⟨g,off,cur,fr,hA,hg,r⟩
 ·exact .inl b
 exact .inr ⟨g,off,cur,fr,hA,by omega,r⟩
theorem Way.cells {w:World}{E:TypeId}(h:Way w base E (.slice A n cap) l):∀a,A=some a->∀j u,(cb l)[j]?=some u->w.cell? (a.add j)=some u:=by
 obtain⟨s,C,m,x,p,d⟩:=h;injection m with c _ hc;subst c;subst hc;intro a b j u hu;rcases d with⟨d,_⟩|⟨g,off,B,q,c,z,k,y,e,r⟩
 ·rw[d]at b;cases b
 rw[c]at b;injection b with b;subst b;have i:((g,off):Addr).add j=⟨g,off+j,none⟩:=by unfold Addr.add;split<;>simp_all
 have o:j<l.length:=by have:=(yR.1 hu).1;rwa [aO]at this
 rw[i];simp only[World.cell?,k];rw[<-e,yk o,y8]at hu;simpa using hu
theorem Way.len {w:World}{E:TypeId}(h:Way w base E (.slice A n cap) l):n=l.length/\n<=cap/\(A=none->cap=0):=by
 obtain⟨j,o,d,k,_,c⟩:=h;injection d with b hn hc;subst b;subst hc;refine⟨hn,by omega,fun e=> ?_⟩;rcases c with⟨_,c⟩|⟨g,off,m,i,b,_⟩
 ·exact c
 rw[e]at b;cases b
theorem Way.str {P:Program}{w:World}{src dst e:TypeId}(c:P.underlying src=some (.slice e))(b:P.underlying e=some (.int .u8))(hd:P.underlying dst=some .string){cap2:Nat}{E:TypeId}
 (h:Way w base E (.slice A n cap) l) {k:Nat} (m:k<=n):(convert src dst (.slice A k cap2)).run P w= .ok (.string ⟨(l.take k).toArray⟩) w:=by
 obtain⟨rfl,o,hz⟩:=h.len;cases A with
 |none=>
  have:=hz rfl;obtain rfl:k=0:=by omega
  rw[Zp w src dst e none _ cap2 c b hd];rfl
 |some a=>
  have d:(l.take k).length=k:=by rw[zQ];omega
  have:=vo (P:=P) w src dst e c b hd a cap2 (l.take k) (fun j u hu=>h.cells a rfl j u (by
   have i:j<k:=by have:=(yR.1 hu).1;rw[aO,d]at this;exact this
   rw[show cb (l.take k)=(cb l).take k from by simp[cb],yk i]at hu;exact hu))
  rw[d]at this;exact this
theorem Way.cut {w:World}{E:TypeId}{g d:Nat}(h:Way w base E (.slice (some (g,d)) n cap) l){k:Nat}(B:k<=n){c:Nat}(p:c=d+k\/(cap=k/\c=d)):Way w base E (.slice (some (g,c)) (n-k) (cap-k)) (l.drop k):=by
 obtain⟨rfl,D,_⟩:=h.len;obtain⟨y,z,i,F,u,m⟩:=h;injection i with b _ UD;subst b;subst UD;rcases m with⟨b,_⟩|⟨x,A,j,q,b,s,r,C,o,e⟩
 ·cases b
 injection b with b;injection b with Dp Nf _;subst Dp;subst Nf;refine⟨_,_,by rw[zN],by rw[zN];omega,by omega,.inr ⟨g,c,j,q,rfl,s,r,by omega, ?_,e⟩⟩;rcases p with rfl|⟨e1,rfl⟩
 ·have:cb (l.drop k)=(cb l).drop k:=by simp[cb]
  rw[this,<-o,zN,Zc,xx]
 have:l.drop k= []:=zL (by omega);rw[this];rfl
theorem Way.DQ {P:Program}{w:World}{E:TypeId}(h:Way w base E v l)(t d ty:TypeId)(i:TypeInfo)(s:P.underlying t=some (.slice E))(hi:P.info? E=some i)(hz:i.zero=some (.int .u8 0))(n:i.size=1)(K:i.bytes=1)
 (c:Value) (m:List UInt8) (S:Src P 1 d c m.length (cb m) w) (H:base<=w.heap.size) (ab:l.length+m.length<=140737488355328):
 ∃u w',(Builtin.append_ #[t,d] ty #[v,c]).run P w= .ok u w'/\Way w' base E u (l++m)/\lP w w' v u:=by
 have F:=h;obtain⟨A,cap,rfl,uu,R,L⟩:=h;have q:Src P i.size d c m.length (cb m) w:=by rw[n];exact S
 by_cases D:l.length+m.length<=cap
 ·rcases L with⟨p,X⟩|⟨g,off,b,Z,p,hg,x,dZ,M,B⟩
  ·subst p;subst X;have z:l= []:=zk (by omega);have W:m= []:=zk (by omega);subst z;subst W;exact⟨_,w,ZI w t d ty E i s hi none 0 0 (ze _) c q,Way.nil w base E,lP.refl _ _⟩
  subst p;have o:=run_append_room_src (P:=P) w t d ty E i s hi g off l.length cap c m.length (cb m) q D
   (by
    intro j y;rw[aO]at y;have:off+l.length*i.size+j<b.size:=by rw[n];omega
    simp only[World.cell?,x];rw[Zm this];rfl)
   (by
    intro j y;rw[aO]at y;exact dR x (by rw[n];rcases B with h|h;exact .inl h;exact .inr (by omega)))
  rw[n,xH]at o;obtain⟨r,c1,c2,C⟩:=fM (cb m) (off+l.length) w b x (by rw[aO];omega);refine⟨_,_,o,⟨_,cap,by rw[zh],by rw[zh];exact D,R,.inr ⟨g,off,r,Z,rfl,hg,c1,by omega, ?_,by rw[c2];exact B⟩⟩,⟨Yc _ _ _ _,iD _ _ _ _,ZC _ _ _ _,by rw[fN];exact ze _,fun k N G=>Zi w g (off+l.length) (cb m) N (fun e=>G (by subst e;rfl))⟩,.inl rfl⟩;rw[zh,eL];have O:(r.toList.drop off).take (l.length+m.length)=(r.toList.take (off+l.length+m.length)).drop off:=by
   rw[Zc];congr 1;omega
  have Y:(b.toList.take (off+l.length)).drop off=(b.toList.drop off).take l.length:=by
   rw[Zc];congr 1;omega
  rw[aO]at C;rw[O,C,yy (by rw[zQ];have pn:b.toList.length=b.size:=Array.length_toList;omega),Y,M]
 have aa:(Builtin.firstCells i.size l.length (.slice A l.length cap)).run P w.drew= .ok (cb l).toArray w.drew:=by
  have U:=F.cells;cases A with
  |none=>
   have:=F.len.2.2 rfl;have z:l= []:=zk (by omega);subst z;exact run_firstCells_none w.drew i.size 0 0 cap
  |some a=>exact run_firstCells_some w.drew i.size l.length _ l.length cap (cb l) (by rw[aO,n,xH]) (U a rfl)
 have J:Builtin.nextslicecap (l.length+m.length) cap*i.bytes<=281474976710656:=by
  rw[K];exact growslice_fits (by omega) (by omega)
 have o:=run_append_grow_src (P:=P) w t d ty E i (.int .u8 0) s hi hz A l.length cap (cb l) aa c m.length (cb m) q (by omega) (by omega) J;have I:=grownCap_ge w (l.length+m.length) cap E;have g2:=Zs w (l.length+m.length) cap E (by simp[maxLen];omega);refine⟨_,_,o,⟨_,_,by rw[zh],by rw[zh];exact I,by simpa[maxLen]using g2,.inr ⟨w.heap.size,0,_,(0,0),rfl,H,yK w.drew _, ?_, ?_,.inl rfl⟩⟩,iK (cT ((zi w.heap.size w).drew.alloc (by simp) _)) _,.inr ⟨w.heap.size,rfl,ze _⟩⟩
 ·simp only[Array.size_append,Zy,zh,aO,size_zeroCells];have:(Value.int .u8 0).cells.size=1:=rfl;rw[this];omega
 rw[zG,Array.toList_append,zh,zS (by simp[aO]),eL];exact zw (by simp[aO])
theorem qM {P:Program}{w:World}{rest:List Oper}{o:Oper}{a:Act}(z:o.guard=none)(s x:Operand)(t j:TypeId)
 (C:o.op= .call {callee:= .builtin .append,args:= #[s,x],argTypes:= #[t,j]}) (base:Nat) (E:TypeId) (i:TypeInfo) (B:P.underlying t=some (.slice E)) (hi:P.info? E=some i) (hz:i.zero=some (.int .u8 0)) (n:i.size=1) (A:i.bytes=1)
   (u:a.eval s=v) (h:Way w base E v l) (e:Value) (m:List UInt8) (hx:a.eval x=e) (D:Src P 1 j e m.length (cb m) w) (r:base<=w.heap.size) (G:l.length+m.length<=140737488355328)
 (H:∀(b:Option Addr) (d c:Nat) w',Way w' base E (.slice b d c) (l++m)->lP w w' v (.slice b d c)->wpList P ops Q rest (a.put o.dst (.slice b d c)) w'):wpList P ops Q (o::rest) a w:=
 Yq z fun K F=>by
  obtain⟨I,w',y,k,p⟩:=h.DQ (P:=P) t j o.type i B hi hz n A e m D r G;obtain⟨b,d,c,q,_⟩:=k.bK;unfold Oper.wp;simp[execOp,C,resolve,invoke,builtin,u,hx,y,Result.andThen];subst q;exact F _ _ (H _ _ _ w' k p)
theorem dY {c:Sort _}(a:c):∃b,a=b:=⟨a,rfl⟩
theorem exh {c:Sort _}(a:c):∃b,Hid (a=b):=⟨a,rfl⟩
theorem cm {P:Program}{f:FuncId}{a:Array Value}{w:World}{v:Ending}{R:World->Prop}{Q:Ending->World->Prop}(h:Calls P f a w (fun e w'=>e=v/\R w'))(k:∀w',R w'->Q v w'):Calls P f a w Q:=h.mono (by rintro e w' ⟨b,c⟩;rw[b];exact k _ c)
theorem Rt {P:Program}{f:FuncId}{a:Array Value}{w:World}{v:Ending}{Q:Ending->World->Prop}(h:Calls P f a w (fun e w'=>e=v/\w=w'))(k:Q v w):Calls P f a w Q:=h.mono (by rintro e w' ⟨b,c⟩;rw[b,<-c];exact k)
theorem af.at_ {c:World}{k:Nat}{t:TypeId}{b:Array Value}(hz:c.heap.size=k):af (c.alloc (.cells b t)) k t b:=hz▸af.new c t b
def oA (w:World)(B:Nat)(v:Value)(l:List aV):Prop:=∃A cap,v= .slice A l.length cap/\l.length<=cap/\cap<=9223372036854775807/\∀j (h:j<l.length),∃g o,A=some ⟨g,o,none⟩/\g<B/\(w,g,o+j*3,Value.int .u64 l[j].id)/\(w,g,o+j*3+1,Value.string l[j].name)/\(w,g,o+j*3+2,Value.string l[j].ty)
theorem oA.ah {w:World}{d:Nat}{l:List aV}(h:oA w B v l)(x:B<=d)(b:∀p:Addr,p.block<B->w'.cell? p=w.cell? p):oA w' d v l:=by
 obtain⟨A,cap,r,s,k,u⟩:=h;refine⟨A,cap,r,s,k,fun j q=> ?_⟩;obtain⟨g,o,m,c,e,n,i⟩:=u j q;exact⟨g,o,m,by omega,(b _ c).trans e,(b _ c).trans n,(b _ c).trans i⟩
theorem oA.below {w:World}{l:List aV}(h:oA w B v l)(c:Below B w w'):oA w' B v l:=h.ah (ze _) (fun _ b=>c.cell b)
theorem oA.mono {w:World}{b:Nat}{l:List aV}(h:oA w B v l)(c:B<=b):oA w b v l:=h.ah c (fun _ _=>rfl)
theorem oA.bK {w:World}{l:List aV}(h:oA w B v l):∃A n cap,v= .slice A n cap/\Hid (n=l.length)/\n<=cap/\cap<=9223372036854775807:=by
 obtain⟨A,cap,b,d,c,_⟩:=h;exact⟨A,_,cap,b,za rfl,d,c⟩
theorem oA.at_ {w:World}{l:List aV}(h:oA w B (.slice A n cap) l)(b:j<l.length):∃g o,A=some ⟨g,o,none⟩/\g<B/\(w,g,o+j*3,Value.int .u64 l[j].id)/\(w,g,o+j*3+1,Value.string l[j].name)/\(w,g,o+j*3+2,Value.string l[j].ty):=by
 obtain⟨i,m,c,k,e,d⟩:=h;injection c with hA _ _;subst hA;exact d j b
theorem oA.nil (w:World)(B:Nat):oA w B nS []:=⟨none,0,rfl,by simp,by simp,fun j b=>by simp at b⟩
theorem C0 (n:Nat):(madeCells #[Value.int .u8 0] n).toList=cb (List.replicate n 0):=by
 have:=vZ n;rw[xH]at this;exact this
theorem Oh (n:Nat):(madeCells #[Value.int .u8 0] n).size=n:=by
 have:=yi List.length (C0 n);rw[aO,xA]at this;simpa using this
theorem mq {P:Program}(w:World){rest:List Oper}{o:Oper}{a:Act}
 (C:o.guard=none) (l c:Operand) (t:TypeId) (q:o.op=Op.makeSlice t l c)
 (base:Nat) (e:TypeId) (i:TypeInfo) (r:P.underlying t=some (.slice e)) (hi:P.info? e=some i) (hz:i.zero=some (.int .u8 0)) (s:i.size=1) (u:i.bytes=1)
 (p k:IntKind) (m n:Nat) (x:a.eval l= .int p (m:Int)) (z:a.eval c= .int k (n:Int)) (d:m<=n) (D:n<=281474976710656) (j:base<=w.heap.size)
 (B:∀w',bR w' base e (.slice (some (w.heap.size,0)) m n) (List.replicate m 0)->Kept e base w w'->Below w.heap.size w w'->wpList P ops Q rest (a.put o.dst (.slice (some (w.heap.size,0)) m n)) w'):
 wpList P ops Q (o::rest) a w:=by
 refine Yq C fun K y=> ?_
 have h:=run_make (P:=P) w t e i (.int .u8 0) r hi hz p k m n (by omega) (by omega) (by rw[u];omega) (by omega);simp only[Int.toNat_natCast,s,xH]at h;have A:bR (w.alloc (.cells (madeCells #[Value.int .u8 0] n) e)) base e (.slice (some (w.heap.size,0)) m n) (List.replicate m 0):=by
  refine⟨some (w.heap.size,0),n,by rw[xA],by rw[xA];exact d,by omega,.inr ⟨w.heap.size,madeCells #[Value.int .u8 0] n,(0,0),rfl,j,yK w _,Oh n, ?_,.inl rfl⟩⟩;rw[xA,C0,<-U5,List.take_replicate,yF d]
 have b:Below w.heap.size w (w.alloc (.cells (madeCells #[Value.int .u8 0] n) e)):=(zi _ w).alloc (ze _) _;unfold Oper.wp;simp[execOp,q,x,z,h,Result.andThen];exact y _ _ (B _ A (Kept.ai b (ze _) j) b)
def fF (L:List UInt8)(a b:Nat):Prop:=L[a]?=L[b]?/\L[a+1]?=L[b+1]?/\L[a+2]?=L[b+2]?/\L[a+3]?=L[b+3]?
instance (L :List UInt8)(a b:Nat):Decidable (fF L a b):=by unfold fF;infer_instance
theorem fF.symm {L:List UInt8}{a b:Nat}(h:fF L a b):fF L b a:=⟨h.1.symm,h.2.1.symm,h.2.2.1.symm,h.2.2.2.symm⟩
theorem fF.trans {L:List UInt8}{a b c:Nat}(h:fF L a b)(k:fF L b c):fF L a c:=⟨h.1.trans k.1,h.2.1.trans k.2.1,h.2.2.1.trans k.2.2.1,h.2.2.2.trans k.2.2.2⟩
def jN (L:List UInt8)(a:Nat):Nat->Option Nat
 |0=>none
 |n+1=>if n+4<=L.length/\fF L n a then some n else jN L a n
theorem mt4 (L:List UInt8)(j i:Nat)(h:j<i)(hi:i<=L.length):4<=mt L j i 64↔i+4<=L.length/\fF L j i:=by
 constructor
 ·intro c;have b:=(CD L 64 j i).2 hi;exact⟨by omega,FX L 64 j i 0 (by omega),FX L 64 j i 1 (by omega),FX L 64 j i 2 (by omega),FX L 64 j i 3 (by omega)⟩
 rintro⟨b,g0,g1,g2,g3⟩;have d:mt L j i 64=mt L (j+4) (i+4) 60+4:=by
  rw[mt,zg ⟨by omega,g0⟩,mt,zg ⟨by omega,g1⟩,mt,zg ⟨by omega,g2⟩,mt,zg ⟨by omega,g3⟩]
 omega
theorem wS (L:List UInt8)(i:Nat)(hi:i<=L.length)(h:¬i+4<=L.length):∀k,k<=i->Ju L i k=none:=by
 intro k;induction k with
 |zero=>intro _;rfl
 |succ k ih=>
  intro c;rw[Ju,zf (by rw[mt4 L k i (by omega) hi];exact fun b=>h b.1)];exact ih (by omega)
theorem Ru (L:List UInt8)(i:Nat)(hi:i+4<=L.length):∀k,k<=i->Ju L i k=jN L i k:=by
 intro k;induction k with
 |zero=>intro _;rfl
 |succ k ih=>
  intro c;rw[Ju,jN,ih (by omega)];by_cases h:fF L k i
  ·rw[zg ((mt4 L k i (by omega) (by omega)).2 ⟨hi,h⟩),zg ⟨by omega,h⟩]
  rw[zf (fun b=>h ((mt4 L k i (by omega) (by omega)).1 b).2),zf (fun b=>h b.2)]
theorem Rv (L:List UInt8)(a:Nat):∀n j,jN L a n=some j->j<n:=by
 intro n;induction n with
 |zero=>intro j h;simp[jN]at h
 |succ n ih=>
  intro j h;rw[jN]at h;split at h
  ·injection h with h;omega
  have:=ih j h;omega
theorem JT (L:List UInt8)(a n:Nat)(h:n+4<=L.length)(b:fF L n a):jN L a (n+1)=some n:=by rw[jN,zg ⟨h,b⟩]
theorem tN (L:List UInt8)(a n:Nat)(h:¬(n+4<=L.length/\fF L n a)):jN L a (n+1)=jN L a n:=by rw[jN,zf h]
def oT (c:aF)(l:List aV)(x:gW)(way:ByteArray)(got sent:List Ms)(N:Nat):Prop:=∃P m,pB (aQ c l) x P got/\split (aQ c l) (P++way)=(sent,ByteArray.empty,m,0)/\P.size+way.size<=N/\x.told=got.length
theorem oT.new {c:aF}(b:c.right=true)(l:List aV):oT c l gW.new ByteArray.empty [] [] 0:=
 ⟨ByteArray.empty,0,pB.new (dz c l) (oz b l),by rw[iL,dv (dz c l) (oz b l)],ze _,rfl⟩
theorem C1 (a b c:ByteArray):a++b++c=a++(b++c):=aE (by simp only[aX,zB])
theorem Rw (a:ByteArray):ByteArray.empty++a=a:=aE (by rw[aX];rfl)
theorem oT.send {c:aF}{l:List aV}{got sent:List Ms}(h:oT c l F way got sent N)(n:c.right=true)(e:ch c l)(hid:Gv l)(d:(bw c l nm x).2=0)(hz:x.fB.length<18446744073709551616):
 ∃y,oT c l F (way++(bw c l nm x).1) got (sent++ [⟨nm,y⟩]) (N+(bw c l nm x).1.size)/\(c.fm≠1->y=x):=by
 obtain⟨P,m,o,b,q,j⟩:=h;obtain⟨y,k,_,i,p,_⟩:=wR n e hid d hz;refine⟨y,⟨P,m+k,o, ?_,by rw[bV];omega,j⟩,p⟩;rw[<-C1,lL (dz c l) _ _ (by rw[b]),b];simp only;rw[Rw,i]
theorem Vq (s:ByteArray)(n:Nat)(h:n<=s.size):s.extract 0 n++s.extract n s.size=s:=by
 apply aE;rw[aX,aq,aq,cQ];simp only[zG];exact zE n s.data.toList
theorem oT.move {c:aF}{l:List aV}{got sent:List Ms}(h:oT c l F way got sent N)(n:Nat)(p:n<=way.size):
 (kT (aQ c l) F (way.extract 0 n)).2.2=0/\oT c l (kT (aQ c l) F (way.extract 0 n)).1 (way.extract n way.size) (got++(kT (aQ c l) F (way.extract 0 n)).2.1) sent N/\got.length+(kT (aQ c l) F (way.extract 0 n)).2.1.length<=sent.length:=by
 obtain⟨P,m,j,b,q,o⟩:=h;obtain⟨d,a2,a3,a4⟩:=j.kT (dz c l) (way.extract 0 n);have e:P++way.extract 0 n++way.extract n way.size=P++way:=by rw[C1,Vq _ _ p]
 have k:(split (aQ c l) (P++way.extract 0 n)).2.2.2=0:=by
  have:=pA (dz c l) (P++way.extract 0 n) (way.extract n way.size);rw[e,b]at this;by_cases hz:(split (aQ c l) (P++way.extract 0 n)).2.2.2=0
  ·exact hz
  rw[zf hz]at this;have:=yi (fun z=>z.2.2.2) this;exact this.symm
 have i:(split (aQ c l) (P++way.extract 0 n)).1.length<=sent.length:=by
  have:=yi (fun z=>z.1.length) (lL (dz c l) (P++way.extract 0 n) (way.extract n way.size) k);rw[e,b]at this;simp only[zh]at this;omega
 rw[<-a2,zh]at i;rw[k]at d;refine⟨d,⟨P++way.extract 0 n,m,a4 d,by rw[e];exact b, ?_, ?_⟩,i⟩
 ·rw[bV,ar _ _ _ (by omega),ar _ _ _ (ze _)];omega
 rw[gA j.fault];simp only[zh];rw[o]
theorem oT.buf {c:aF}{l:List aV}{got sent:List Ms}(h:oT c l F way got sent N):F.buf.size+way.size<=N/\F.told<=N/\F.fault=0:=by
 obtain⟨P,m,b,j,i,e⟩:=h;have:=JS c l P;have d:=Rs c l P;rw[<-b.buf]at this;rw[<-b.told]at d;exact⟨by omega,by omega,b.fault⟩
theorem oT.done {c:aF}{l:List aV}{got sent:List Ms}(h:oT c l F ByteArray.empty got sent N):got=sent/\F.buf=ByteArray.empty/\F.fault=0:=by
 obtain⟨P,m,d,e,_⟩:=h;rw[iL]at e;have a:=d.told;have b:=d.buf;rw[e]at a b;exact⟨a,b,d.fault⟩
theorem L8 {e:Type}{b:Nx e}{P:e->Prop}(d:∀s,(b s).1=0->P (b s).2.1):∀(f:Nat) (s:ByteArray),∀m∈(Xq b f s).1,P m
 |0,_,m,h=>by cases h
 |f+1,s,m,h=>by
  unfold Xq at h;by_cases c:(b s).1=0
  ·rw[zg c]at h;rcases yj.1 h with rfl|h
   ·exact d s c
   exact L8 d f _ m h
  rw[zf c]at h;cases h
theorem Gx (h:ep t x=0):x.may=true:=((sH t x).1 h).2.1
theorem Oi {c:aF}{l:List aV}(h:(bB c l nm x).2=0):x.may=true:=by
 obtain⟨e,k,b,j⟩:=k8 h;by_cases i:c.fm=1
 ·unfold bU mn at b;rw[zg i]at b;by_cases d:iu e.shape x c.it=0
  ·exact Gx (sF d).2.1
  rw[zf d]at b;exact absurd b d
 unfold bU gD at b;rw[zf i]at b;simp only at b;by_cases d:ep e.shape x=0
 ·exact Gx d
 rw[zg d]at b;exact absurd b d
theorem aal {c:aF}{l:List aV}(b:ch c l)(s:ByteArray)(h:(aQ c l s).1=0):(aQ c l s).2.1.x.may=true:=by
 obtain⟨d,e⟩:=CY h;rw[qL d];exact Oi (by rw[wQ b e])
theorem oT.may {c:aF}{l:List aV}{got sent:List Ms}(h:oT c l F way got sent N)(b:ch c l):∀m∈got,m.x.may=true:=by
 obtain⟨P,m,d,_⟩:=h;rw[d.told];exact L8 (aal b) _ _
