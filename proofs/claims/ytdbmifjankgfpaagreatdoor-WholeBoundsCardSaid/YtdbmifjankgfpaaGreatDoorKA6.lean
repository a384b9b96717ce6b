/- Values as trees: plain laws. No program in sight. -/
import Derived.Test.YtdbmifjankgfpaaGreatDoorKA5
import Derived.Deep.OwnRows
set_option linter.all false
open Go.Proofs.Tryz
namespace Go.Proofs.YtdbmifjankgfpaaGreatDoor
variable {B j i o n cap:Nat}{w':World}{v e a:Value}{x:It}{s nm:ByteArray}{l:List Fr}{A:Option Addr}{f:Fr}{t:Ty}{L:List Nat}{y:eZ}{ops:Array Oper}{rest:List Oper}{Q:Exit->Act->World->Prop}
def zv:=@decide_eq_false
def y9:=@wpList_append_lies
def xi:=@List.mem_of_getElem?
def xw:=@List.mem_singleton
def xP:=@MapKept.run_getObj_map
def xT:=@run_underlying
def xY:=@MapKept.run_checkKey
def Zb:=@List.mem_of_find?_eq_some
def Zd:=@MapKept.run_findKey
def Zf:=@List.getElem_append_left
def Zv:=@List.any_eq_true
def ZD:=@List.mem_append
def ZY:=@List.any_eq_false
def Yg:=@List.find?_some
def lR (D M:Int)(s:ByteArray):Int:=if(bu D M s 1 0).e≠0 then(bu D M s 1 0).e else if(bu D M s 1 0).size<s.size then 3 else 0
def jh (D M:Int)(s:ByteArray):It:=if lR D M s≠0 then ju else(bu D M s 1 0).x
theorem BZ (x:It):x.may=true↔x.right=true/\x.deep<=16/\x.count<=1024:=by
 simp only[It.may,zy,yb,and_assoc]
theorem pb (x:It)(D M:Int):fV x D M=0↔x.may=true/\(x.deep:Int)<=D/\(x.count:Int)<=M:=by
 unfold fV;cases x.may<;>simp
 split
 ·simp;omega
 split
 ·simp;omega
 simp;omega
theorem Pv (D M:Int)(x:It)(h:fV x D M=0)(s:ByteArray)(c:s.data.toList=x.gN)(hz:s.size<18446744073709551616):lR D M s=0/\jh D M s=x:=by
 rw[pb,BZ]at h;obtain⟨⟨e,l,m⟩,i,k⟩:=h;have b:=TB D M x s [] 1 0 (by simpa using c) hz e (by omega) (by omega) (by omega) (by omega);have j:s.size=x.gN.length:=by rw[<-c,aa]
 have d:lR D M s=0:=by
  unfold lR;rw[b];simp;omega
 refine⟨d, ?_⟩;unfold jh;rw[zh (by simp[d]),b]
theorem Pw (D M:Int)(s:ByteArray)(h:lR D M s=0):fV (jh D M s) D M=0/\(jh D M s).gN=s.data.toList:=by
 have hx:jh D M s=(bu D M s 1 0).x:=by unfold jh;rw[zh (by simp[h])]
 rw[hx];unfold lR at h;have b:=(TA D M s.size).1 s 1 0 (zg _);generalize bu D M s 1 0=R at*;by_cases c:R.e≠0
 ·rw[zi c]at h;exact absurd h c
 rw[zh c]at h;have b:=b (zC.1 c);have d:¬R.size<s.size:=by intro d;rw[zi d]at h;simp at h
 have j:s.data.toList.length=s.size:=aa s;refine⟨?_, ?_⟩
 ·rw[pb,BZ];have i:=b.deepD;have e:=b.deep16;have a3:=b.manyM;have a4:=b.many;exact⟨⟨b.right,by omega,by omega⟩,by omega,by omega⟩
 rw[b.gN,zz (by omega)]
theorem B0 (ty:Ty)(x:It):eO ty x=0↔ty.may=true/\x.may=true/\x.dr ty=true:=by
 unfold eO;cases ty.may<;>cases x.may<;>cases x.dr ty<;>simp
def gX (ty:Ty)(x:It)(D M:Int):Int:=if eO ty x≠0 then eO ty x else fV x D M
def kt (ty:Ty)(s:ByteArray)(D M:Int):Int:=if ty.may=false then 1 else if lR D M s≠0 then lR D M s else eO ty (jh D M s)
def qh (ty:Ty)(s:ByteArray)(D M:Int):It:=if kt ty s D M≠0 then ju else jh D M s
theorem lS (ty:Ty)(x:It)(D M:Int):gX ty x D M=0↔eO ty x=0/\fV x D M=0:=by
 unfold gX;split<;>simp_all
theorem pc (ty:Ty)(s:ByteArray)(D M:Int):kt ty s D M=0↔ty.may=true/\lR D M s=0/\eO ty (jh D M s)=0:=by
 unfold kt;cases ty.may
 ·simp
 simp only[Bool.true_eq_false,xL,true_and];split<;>simp_all
theorem CU (ty:Ty)(x:It)(D M:Int)(h:gX ty x D M=0)(s:ByteArray)(b:s.data.toList=x.gN)(hz:s.size<18446744073709551616):kt ty s D M=0/\jh D M s=x:=by
 rw[lS]at h;obtain⟨d,c⟩:=Pv D M x h.2 s b hz;rw[pc,c];exact⟨⟨((B0 ty x).1 h.1).1,d,h.1⟩,rfl⟩
theorem CV (ty:Ty)(s:ByteArray)(D M:Int)(h:kt ty s D M=0):gX ty (jh D M s) D M=0/\(jh D M s).gN=s.data.toList:=by
 rw[pc]at h;obtain⟨b,c⟩:=Pw D M s h.2.1;rw[lS];exact⟨⟨h.2.2,b⟩,c⟩
structure bD where
 id:Nat
 name:ByteArray
 ty:ByteArray
def bD.shape (e:bD):Ty:=(cS e.ty.data.toList).getD (.mk 0 0 [] 0)
def gM (c:aI)(seen:List bD)(e:bD):Int:=
 if cd e.name=false then 11 else if(seen.any fun x=>decide (x.name=e.name))=true then 11 else if(seen.any fun x=>decide (x.id=e.id))=true then 1
 else if cS e.ty.data.toList=none then 3 else if c.fm=1/\e.shape.flat=false then 12 else 0
def jo (c:aI):List bD->List bD->Int
 |_,[]=>0
 |seen,e::r=>if gM c seen e≠0 then gM c seen e else jo c (seen++ [e]) r
def np (c:aI)(l:List bD):Int:=if c.right=false then 1 else if 32<l.length then 4 else jo c [] l
def fN (l:List bD)(nm:ByteArray):Option bD:=l.find? fun e=>decide (e.name=nm)
def mG (c:aI)(f:Fr)(e:bD):Bool:=(decide (c.fm=1)&&decide (f.nm=e.name)&&decide (f.id=0))||(decide (c.fm≠1)&&decide (f.id=e.id)&&decide (f.nm.size=0))
def gh (c:aI)(l:List bD)(f:Fr):Option bD:=l.find? (mG c f)
def bY (c:aI)(t:Ty)(x:It):ByteArray×Int:=if c.fm=1 then oJ t x c.it else(if gX t x c.de c.it=0 then⟨x.gN.toArray⟩else⟨#[]⟩,gX t x c.de c.it)
def dD (c:aI)(t:Ty)(s:ByteArray):Int×It:=if c.fm=1 then jP t s c.it else(kt t s c.de c.it,qh t s c.de c.it)
def bI (c:aI)(l:List bD)(nm:ByteArray)(x:It):Fr×Int:=match fN l nm with
 |none=>(rD,11)
 |some e=>if(bY c e.shape x).2≠0 then(rD,(bY c e.shape x).2)else if c.fm=1 then(⟨0,e.name,(bY c e.shape x).1⟩,0)else(⟨e.id,ByteArray.empty,(bY c e.shape x).1⟩,0)
structure Ms where
 name:ByteArray
 x:It
def rM :Ms:=⟨ByteArray.empty,ju⟩
def fh (c:aI)(l:List bD)(f:Fr):Int×Ms:=match gh c l f with
 |none=>(11,rM)
 |some e=>if(dD c e.shape f.body).1=0 then(0,⟨e.name,(dD c e.shape f.body).2⟩)else if(dD c e.shape f.body).1=2 then(3,rM)else((dD c e.shape f.body).1,rM)
structure cX (c:aI)(l:List bD):Prop where
 may:∀e∈l,cd e.name=true
 ty:∀e∈l,cS e.ty.data.toList=some e.shape
 flat:c.fm=1->∀e∈l,e.shape.flat=true
 names:∀i j (hi:i<l.length) (hj:j<l.length),l[i].name=l[j].name->i=j
 ids:∀i j (hi:i<l.length) (hj:j<l.length),l[i].id=l[j].id->i=j
theorem cX.nil (c:aI):cX c []:=⟨by simp,by simp,by simp,by simp,by simp⟩
theorem B3 {c:aI}{seen:List bD}{e:bD}(h:gM c seen e=0):cd e.name=true/\(∀x∈seen,x.name≠e.name)/\(∀x∈seen,x.id≠e.id)/\cS e.ty.data.toList=some e.shape/\(c.fm=1->e.shape.flat=true):=by
 unfold gM at h;by_cases d:cd e.name=false
 ·rw[zi d]at h;cases h
 rw[zh d]at h;by_cases i:(seen.any fun x=>decide (x.name=e.name))=true
 ·rw[zi i]at h;cases h
 rw[zh i]at h;by_cases k:(seen.any fun x=>decide (x.id=e.id))=true
 ·rw[zi k]at h;cases h
 rw[zh k]at h;by_cases b:cS e.ty.data.toList=none
 ·rw[zi b]at h;cases h
 rw[zh b]at h;by_cases l:c.fm=1/\e.shape.flat=false
 ·rw[zi l]at h;cases h
 refine⟨by simpa using d,fun x hx j=>i (Zv.2 ⟨x,hx,zD j⟩),fun x hx j=>k (Zv.2 ⟨x,hx,zD j⟩), ?_,fun n=> ?_⟩
 ·obtain⟨t,m⟩:=Option.ne_none_iff_exists'.1 b;unfold bD.shape;rw[m];rfl
 cases hf:e.shape.flat with
 |true=>rfl
 |false=>exact absurd ⟨n,hf⟩ l
theorem cX.snoc {c:aI}{l:List bD}{e:bD}(h:cX c l)(y:gM c l e=0):cX c (l++ [e]):=by
 obtain⟨s,u,w,z,r⟩:=B3 y;have key:∀{n:Type} (f:bD->n),(∀x∈l,f x≠f e)->(∀i j (hi:i<l.length) (m:j<l.length),f l[i]=f l[j]->i=j)->∀i j (hi:i<(l++ [e]).length) (m:j<(l++ [e]).length),f (l++ [e])[i]=f (l++ [e])[j]->i=j:=by
  intro n f o q i j hi m b;simp only[zl,yL]at hi m;by_cases k:i<l.length
  ·rw[Zf k]at b;by_cases d:j<l.length
   ·rw[Zf d]at b;exact q i j k d b
   obtain rfl:j=l.length:=by omega
   rw[List.getElem_concat_length rfl]at b;exact absurd b (o _ (zR k))
  obtain rfl:i=l.length:=by omega
  rw[List.getElem_concat_length rfl]at b;by_cases d:j<l.length
  ·rw[Zf d]at b;exact absurd b.symm (o _ (zR d))
  omega
 refine⟨fun x hx=> ?_,fun x hx=> ?_,fun p x hx=> ?_,key (·.name) u h.names,key (·.id) w h.ids⟩
 ·rcases ZD.1 hx with hx|hx
  ·exact h.may x hx
  obtain rfl:=xw.1 hx;exact s
 ·rcases ZD.1 hx with hx|hx
  ·exact h.ty x hx
  obtain rfl:=xw.1 hx;exact z
 rcases ZD.1 hx with hx|hx
 ·exact h.flat p x hx
 obtain rfl:=xw.1 hx;exact r p
theorem E5 {c:aI}:∀(r seen:List bD),cX c seen->jo c seen r=0->cX c (seen++r)
 | [],seen,h,_=>by simpa using h
 |e::r,seen,h,hz=>by
  rw[jo]at hz;by_cases he:gM c seen e=0
  ·rw[zh (by simp[he])]at hz;have:=E5 r (seen++ [e]) (h.snoc he) hz;rwa [zE,Zr]at this
  rw[zi he]at hz;exact absurd hz he
theorem Px {c:aI}{l:List bD}(h:np c l=0):c.right=true/\l.length<=32/\cX c l:=by
 unfold np at h;cases hr:c.right with
 |false=>rw[zi hr]at h;cases h
 |true=>
  rw[zh (by simp[hr])]at h;by_cases b:32<l.length
  ·rw[zi b]at h;cases h
  rw[zh b]at h;exact⟨rfl,by omega,by simpa using E5 l [] (cX.nil c) h⟩
open Go.RowKit
def mE :List (Value×Value)->Nat->List MapEntry
 | [],_=> []
 |x::xs,b=>⟨x.1,x.2,b⟩::mE xs (b+1)
theorem B4 :∀(l m:List (Value×Value)) (b:Nat),mE (l++m) b=mE l b++mE m (b+l.length)
 | [],m,b=>by simp[mE]
 |x::xs,m,b=>by simp only[ya,mE,B4 xs m,zx];rw[show b+1+xs.length=b+(xs.length+1)from by omega]
theorem Ko :∀(l:List (Value×Value)) (b j:Nat),(mE l b)[j]?=(l[j]?).map fun x=>⟨x.1,x.2,b+j⟩
 | [],b,j=>by simp[mE]
 |x::xs,b,0=>by simp[mE]
 |x::xs,b,j+1=>by simp only[mE,List.getElem?_cons_succ,Ko xs];rw[show b+1+j=b+(j+1)from by omega]
theorem WJ {l:List (Value×Value)}{b:Nat}{e:MapEntry}(h:e∈mE l b):∃x∈l,e.key=x.1/\e.val=x.2:=by
 obtain⟨j,c⟩:=List.getElem?_of_mem h;rw[Ko]at c;cases hl:l[j]? with
 |none=>rw[hl]at c;cases c
 |some x=>
  rw[hl]at c;injection c with c;subst c;exact⟨x,xi hl,rfl,rfl⟩
theorem Kp {d:TypeDesc}{k:Value}(p:MapKept.IsKey d k)(l:List (Value×Value))(m:∀x∈l,MapKept.IsKey d x.1):
 (Instr.findNow d k (mE l 0) 0=some none/\∀x∈l,x.1≠k)\/∃j x,Instr.findNow d k (mE l 0) 0=some (some (j,x.2))/\l[j]?=some x/\x.1=k:=by
 rcases MapKept.findNow_spec p (mE l 0) 0 (fun e o=>by obtain⟨x,hx,c,_⟩:=WJ o;rw[c];exact m x hx)with⟨c,b⟩|⟨j,e,c,b,h⟩
 ·refine .inl ⟨c,fun x hx=> ?_⟩;obtain⟨j,n⟩:=List.getElem?_of_mem hx;have h:=b ⟨x.1,x.2,0+j⟩ (xi (i:=j) (by rw[Ko,n];rfl));exact h
 rw[Ko]at b;cases Jz:l[j]? with
 |none=>rw[Jz]at b;cases b
 |some x=>
  rw[Jz]at b;injection b with b;subst b;exact .inr ⟨j,x,by rw[c,zQ],Jz,h⟩
section
variable {P:Program} {w:World} {g c:Nat} {T K E:TypeId} {d:TypeDesc} {k:Value} {es:List MapEntry}
def jv (w:World)(g:Nat)(l:List (Value×Value)):Prop:=w.heap[g]?=some (.map (mE l 0).toArray l.length)
theorem jv.lt {l:List (Value×Value)}(h:jv w g l):g<w.heap.size:=yP h
theorem Fa {l:List (Value×Value)}(e:jv w g l)(c:P.underlying T=some (.map K E))(b:P.underlying K=some d)(i:MapKept.IsKey d k)(h:Instr.findNow d k (mE l 0) 0=some (some (j,v))):
 (Instr.lookup T (.map (some g)) k true).run P w= .ok (.tuple #[v,.bool true]) w:=by
 simp[Instr.lookup,xT c,xP e,xY b i,Zd b h,Result.andThen]
theorem Kq {l:List (Value×Value)}(i:jv w g l)(c:P.underlying T=some (.map K E))(b:P.underlying K=some d)(e:MapKept.IsKey d k)(h:Instr.findNow d k (mE l 0) 0=some none){z:Value}(hz:(zeroValue E).run P w= .ok z w):
 (Instr.lookup T (.map (some g)) k true).run P w= .ok (.tuple #[z,.bool false]) w:=by
 simp[Instr.lookup,xT c,xP i,xY b e,Zd b h,Result.andThen,hz]
def oK (w:World)(g:Nat)(l:List (Value×Value))(k v:Value):World:={w with heap:=w.heap.setIfInBounds g (.map (mE (l++ [(k,v)]) 0).toArray (l.length+1))}
theorem Kr {l:List (Value×Value)}(c:jv w g l)(e:P.underlying T=some (.map K E))(b:P.underlying K=some d)(j:MapKept.IsKey d k)(h:Instr.findNow d k (mE l 0) 0=some none)(v:Value):
 (Instr.mapUpdate T (.map (some g)) k v).run P w= .ok () (oK w g l k v):=by
 have i:(mE l 0).toArray.push ⟨k,v,l.length⟩=(mE (l++ [(k,v)]) 0).toArray:=by rw[B4];simp[mE]
 simp[Instr.mapUpdate,xT e,xP c,xY b j,Zd b h,Result.andThen,MapKept.run_setObj_map _ c];unfold oK;rw[<-i];simp
theorem sZ {l:List (Value×Value)}(b:jv w g l)(k v:Value):jv (oK w g l k v) g (l++ [(k,v)]):=by
 unfold jv oK;simp only[zl,yL];exact(MapKept.heap_set b).1
theorem vr (w:World)(g:Nat)(l:List (Value×Value))(k v:Value):ae [g] w (oK w g l k v):=
 ⟨rfl,rfl,rfl,by simp[oK],fun j _ c=>by
  have b:g≠j:=fun e=>c (by simp[e])
  show(w.heap.setIfInBounds g _)[j]?=_
  simp[b]⟩
theorem jv.only {l:List (Value×Value)}(h:jv w g l)(b:ae L w w')(c:g∉L):jv w' g l:=(b.block g h.lt c).trans h
theorem jv.below {l:List (Value×Value)}(h:jv w g l)(b:Below B w w')(c:g<B):jv w' g l:=(b.block g c).trans h
theorem jv.new (w:World):jv (w.alloc (.map #[] 0)) w.heap.size []:=yR w _
end
abbrev bZ :=bD×Value
def AH (l:List bZ):List (Value×Value):=l.map fun r=>(.string r.1.name,r.2)
def AI (l:List bZ):List (Value×Value):=l.map fun r=>(.int .u64 r.1.id,r.2)
def aK (l:List bZ):List bD:=l.map (·.1)
theorem TC (l:List bZ):∀x∈AH l,MapKept.IsKey .string x.1:=by
 intro x hx;obtain⟨r,_,rfl⟩:=xH.1 hx;simp[MapKept.IsKey]
theorem TD (l:List bZ):∀x∈AI l,MapKept.IsKey (.int .u64) x.1:=by
 intro x hx;obtain⟨r,_,rfl⟩:=xH.1 hx;simp[MapKept.IsKey]
theorem jw {l:List bD}{p:bD->Bool}(h:∀e∈l,p e=false):l.find? p=none:=List.find?_eq_none.2 fun e b=>by simp[h e b]
theorem jx {l:List bD}{p:bD->Bool}{e:bD}(b:l[j]?=some e)(c:p e=true)(hu:∀i (x:bD),l[i]?=some x->p x=true->i=j):l.find? p=some e:=by
 cases h:l.find? p with
 |none=>exact absurd c (List.find?_eq_none.1 h e (xi b))
 |some x=>
  have hx:=Yg h;obtain⟨i,hi⟩:=List.getElem?_of_mem (Zb h);have:=hu i x hi hx;subst this;rw[hi]at b;exact b
theorem B5 {l:List bD}{x:bD}(h:l[i]?=some x):∃hi:i<l.length,l[i]=x:=by
 obtain⟨hi,e⟩:=Zc.1 h;exact⟨hi,e⟩
theorem B6 {c:aI}{l:List bZ}(h:cX c (aK l))(nm:ByteArray):
 (Instr.findNow .string (.string nm) (mE (AH l) 0) 0=some none/\fN (aK l) nm=none)\/∃(j:Nat) (r:bZ),Instr.findNow .string (.string nm) (mE (AH l) 0) 0=some (some (j,r.2))/\l[j]?=some r/\r.1.name=nm/\fN (aK l) nm=some r.1:=by
 rcases Kp (d:= .string) (k:= .string nm) (by simp[MapKept.IsKey]) (AH l) (TC l)with⟨n,b⟩|⟨j,x,n,b,y⟩
 ·refine .inl ⟨n,jw fun e z=>zv fun m=> ?_⟩;obtain⟨r,p,rfl⟩:=xH.1 z;exact b (.string r.1.name,r.2) (xH.2 ⟨r,p,rfl⟩) (by rw[m])
 unfold AH at b;rw[xS]at b;cases hl:l[j]? with
 |none=>rw[hl]at b;cases b
 |some r=>
  rw[hl]at b;injection b with b;subst b;have m:r.1.name=nm:=by injection y
  have o:(aK l)[j]?=some r.1:=by unfold aK;rw[xS,hl];rfl
  refine .inr ⟨j,r,n,hl,m,jx o (zD m) fun i x hi hx=> ?_⟩;obtain⟨u,q⟩:=B5 hi;obtain⟨s,w⟩:=B5 o;exact h.names i j u s (by rw[q,w,m];exact yj hx)
theorem Ks {c:aI}{l:List bZ}(h:cX c (aK l))(id:Nat)(p:bD->Bool)(o:∀e,p e=decide (e.id=id)):
 (Instr.findNow (.int .u64) (.int .u64 id) (mE (AI l) 0) 0=some none/\(aK l).find? p=none)\/∃(j:Nat) (r:bZ),Instr.findNow (.int .u64) (.int .u64 id) (mE (AI l) 0) 0=some (some (j,r.2))/\l[j]?=some r/\r.1.id=id/\(aK l).find? p=some r.1:=by
 rcases Kp (d:= .int .u64) (k:= .int .u64 id) (by simp[MapKept.IsKey]) (AI l) (TD l)with⟨n,b⟩|⟨j,x,n,b,s⟩
 ·refine .inl ⟨n,jw fun e B=>by
   rw[o];refine zv fun m=> ?_
   obtain⟨r,u,rfl⟩:=xH.1 B;exact b (.int .u64 r.1.id,r.2) (xH.2 ⟨r,u,rfl⟩) (by rw[m])⟩
 unfold AI at b;rw[xS]at b;cases hl:l[j]? with
 |none=>rw[hl]at b;cases b
 |some r=>
  rw[hl]at b;injection b with b;subst b;have m:r.1.id=id:=by injection s with _ s;omega
  have q:(aK l)[j]?=some r.1:=by unfold aK;rw[xS,hl];rfl
  refine .inr ⟨j,r,n,hl,m,jx q (by rw[o];exact zD m) fun i x hi hx=> ?_⟩;obtain⟨z,w⟩:=B5 hi;obtain⟨y,A⟩:=B5 q;rw[o]at hx;exact h.ids i j z y (by rw[w,A,m];exact yj hx)
theorem CW {c:aI}(h:c.fm=1)(l:List bD)(f:Fr):gh c l f=if f.id=0 then fN l f.nm else none:=by
 unfold gh fN;by_cases b:f.id=0
 ·rw[zi b];congr 1
  funext e
  simp[mG,h,b,eq_comm]
 rw[zh b];exact jw fun e _=>by simp[mG,h,b]
theorem Ip {c:aI}(h:c.fm≠1)(l:List bD)(f:Fr)(b:f.nm.size≠0):gh c l f=none:=jw fun e _=>by simp[mG,h,b]
theorem TE {c:aI}(h:c.fm≠1)(f:Fr)(b:f.nm.size=0)(e:bD):mG c f e=decide (e.id=f.id):=by simp[mG,h,b,eq_comm]
theorem Fb {l:List bD}{p:bD->Bool}(h:l.find? p=none):l.any p=false:=ZY.2 fun e b=>by simpa using List.find?_eq_none.1 h e b
theorem Fc {l:List bD}{p:bD->Bool}{e:bD}(h:l.find? p=some e):l.any p=true:=Zv.2 ⟨e,Zb h,Yg h⟩
theorem nr {l:List bD}{e:bD}(h:fN l nm=some e):e∈l/\e.name=nm:=⟨Zb h,yj (Yg (p:=fun x:bD=>decide (x.name=nm)) h)⟩
theorem CX {c:aI}{l:List bD}{e:bD}(h:gh c l f=some e):e∈l/\mG c f e=true:=⟨Zb h,Yg h⟩
theorem Mt {c:aI}{l:List bD}(h:cX c l){e:bD}(m:e∈l):fN l e.name=some e:=by
 obtain⟨j,b,rfl⟩:=y7 m;refine jx (zB b) (zD rfl) fun i x hi hx=> ?_
 obtain⟨k,d⟩:=B5 hi;exact h.names i j k b (by rw[d];exact yj hx)
theorem vt {c:aI}{l:List bD}(h:cX c l){e:bD}(q:e∈l)(b:mG c f e=true):gh c l f=some e:=by
 obtain⟨j,m,rfl⟩:=y7 q;refine jx (zB m) b fun i x hi hx=> ?_
 obtain⟨p,o⟩:=B5 hi;by_cases d:c.fm=1
 ·have n:f.nm=x.name:=by simp[mG,d]at hx;exact hx.1
  have k:f.nm=l[j].name:=by simp[mG,d]at b;exact b.1
  exact h.names i j p m (by rw[o,<-n,k])
 have n:f.id=x.id:=by simp[mG,d]at hx;exact hx.1
 have k:f.id=l[j].id:=by simp[mG,d]at b;exact b.1
 exact h.ids i j p m (by rw[o,<-n,k])
theorem AJ (h:s.size=0):s=ByteArray.empty:=aM (by
 have:s.data.toList.length=0:=by rw[aa];exact h
 rw[zp this];rfl)
theorem Mu {c:aI}(h:c.fm=1){e:bD}(d:mG c f e=true):f=⟨0,e.name,f.body⟩:=by
 obtain⟨i,n,b⟩:=f;simp[mG,h]at d;obtain⟨rfl,rfl⟩:=d;rfl
theorem Iq {c:aI}(h:c.fm≠1){e:bD}(d:mG c f e=true):f=⟨e.id,ByteArray.empty,f.body⟩:=by
 obtain⟨i,n,b⟩:=f;simp[mG,h]at d;obtain⟨rfl,j⟩:=d;rw[show n=ByteArray.empty from by first|exact j|exact AJ j]
theorem vu (x:It):(⟨x.gN.toArray⟩:ByteArray).data.toList=x.gN:=by simp
theorem oL {l:List UInt8}(h:l=s.data.toList):(⟨l.toArray⟩:ByteArray)=s:=aM (by simp[h])
theorem B7 {c:aI}(d:c.fm≠1)(h:(bY c t x).2=0)(hz:x.gN.length<18446744073709551616):dD c t (bY c t x).1=(0,x)/\(bY c t x).1=⟨x.gN.toArray⟩:=by
 unfold bY at h⊢;rw[zh d]at h⊢;simp only at h⊢;rw[zi h];refine⟨?_,rfl⟩;obtain⟨b,a2⟩:=CU t x c.de c.it h ⟨x.gN.toArray⟩ (vu x) (by rw[<-aa,vu];exact hz);unfold dD;rw[zh d,b];unfold qh;rw[zh (by simp[b]),a2]
theorem Mv {c:aI}(h:(dD c t s).1=0):bY c t (dD c t s).2=(s,0):=by
 unfold dD at h⊢;by_cases d:c.fm=1
 ·rw[zi d]at h⊢;obtain⟨b,a2⟩:=Io t s c.it h;unfold bY;rw[zi d];unfold oJ;rw[zi b,oL a2]
 rw[zh d]at h⊢;simp only at h⊢;obtain⟨b,a2⟩:=CV t s c.de c.it h;have e:qh t s c.de c.it=jh c.de c.it s:=by unfold qh;rw[zh (by simp[h])]
 rw[e];unfold bY;rw[zh d,zi b,b,oL a2]
theorem qi {c:aI}{l:List bD}(h:(bI c l nm x).2=0):∃e,fN l nm=some e/\(bY c e.shape x).2=0/\(bI c l nm x).1=if c.fm=1 then⟨0,e.name,(bY c e.shape x).1⟩else⟨e.id,ByteArray.empty,(bY c e.shape x).1⟩:=by
 unfold bI at h⊢;cases hb:fN l nm with
 |none=>rw[hb]at h;cases h
 |some e=>
  rw[hb]at h;simp only at h⊢;by_cases b:(bY c e.shape x).2≠0
  ·rw[zi b]at h;exact absurd h b
  rw[zh b]at h⊢;exact⟨e,rfl,zC.1 b,by split<;>rfl⟩
theorem Ir {c:aI}{l:List bD}(k:cX c l)(b:c.fm≠1)(h:(bI c l nm x).2=0)(hz:x.gN.length<18446744073709551616):fh c l (bI c l nm x).1=(0,⟨nm,x⟩):=by
 obtain⟨e,i,j,n⟩:=qi h;obtain⟨m,rfl⟩:=nr i;obtain⟨d,_⟩:=B7 b j hz;rw[n,zh b];unfold fh;rw[vt k m (by simp[mG,b])];simp only[d,xJ]
theorem Is {c:aI}{l:List bD}(k:cX c l)(h:(fh c l f).1=0):bI c l (fh c l f).2.name (fh c l f).2.x=(f,0):=by
 unfold fh at h⊢;cases hb:gh c l f with
 |none=>rw[hb]at h;cases h
 |some e=>
  rw[hb]at h;simp only at h⊢;by_cases b:(dD c e.shape f.body).1=0
  ·rw[zi b]at h⊢;obtain⟨m,i⟩:=CX hb;have j:=Mv b;simp only;unfold bI;rw[Mt k m];simp only[j];rw[zh (by simp)];by_cases d:c.fm=1
   ·rw[zi d,<-Mu d i]
   rw[zh d,<-Iq d i]
  rw[zh b]at h;split at h
  ·cases h
  exact absurd h b
theorem Mw (c:aI)(l:List bD)(f:Fr):(fh c l f).1≠2:=by
 unfold fh;split
 ·simp
 split
 ·simp
 split
 ·simp
 assumption
theorem Mx {c:aI}{l:List bD}(h:(bI c l nm x).2≠0):(bI c l nm x).1=rD:=by
 unfold bI at h⊢;split
 ·rfl
 rename_i e d
 rw[d]at h;simp only at h⊢;by_cases b:(bY c e.shape x).2≠0
 ·rw[zi b]
 rw[zh b]at h;split at h<;>exact absurd rfl h
theorem Kt {M:Int}:∀(b:List Ty) (s:List It) (m i n:Nat),(∀j (h:j<b.length),t.at (i+j)=b[j])->m<=s.length->s.length<=b.length->
 (∀j (c:j<s.length) (k:j<b.length),∀(n:Nat) (q:List UInt8),(n:Int)+(s[j]).count<=M->(b[j]).rd M n ((s[j]).lay (b[j])++q)=⟨0,s[j],n+(s[j]).count,q⟩)->(n:Int)+aN s<=M->
 (nX M b m n (cz s t i)).e=0/\(nX M b m n (cz s t i)).q= []
 | [],s,m,i,n,_,_,hs,_,_=>by
  obtain rfl:s= []:=zp (by simpa using hs);simp[nX,cz]
 |a::b,[],m,i,n,_,hm,_,_,_=>by
  have l:m=0:=by simpa using hm
  subst l;simp[nX,cz]
 |a::b,x::xs,m,i,n,ha,hm,hs,hf,hM=>by
  simp only[aN]at hM;have d:=ha 0 (by simp);rw[xd]at d;have hx:=hf 0 (by simp) (by simp) n (cz xs t (i+1)) (by simp only[yU];omega);simp only[yU]at hx d;rw[cz,d,nX,hx];by_cases e:m=0/\x.lay a++cz xs t (i+1)= []
  ·rw[zi e];exact⟨rfl,e.2⟩
  rw[zh e];simp only[ne_eq,yY,xL];exact Kt b xs (m-1) (i+1) (n+x.count) (fun j c=>by have:=ha (j+1) (by simpa using c);simpa[show i+(j+1)=i+1+j from by omega]using this) (by simp at hm;omega) (by simpa using hs)
   (fun j c k=>by have:=hf (j+1) (by simpa using c) (by simpa using k);simpa using this) (by omega)
theorem WK (M:Int)(u:M<=1024)(x:It)(t:Ty)(n:Nat)(r:t.right=true)(i:ch t.sub=true)(hi:x.dr t=true)(hx:x.right=true)(m:(n:Int)+x.count<=M):(t.rd M n (x.lay t)).e=0/\(t.rd M n (x.lay t)).q= []:=by
 by_cases p:t.kind=5
 ·obtain⟨N,b,s⟩:=x;obtain⟨k,z,l,c⟩:=t;simp only[Ty.J7]at p;subst p;obtain⟨W,J⟩:=jL r;obtain⟨R,E⟩:=mZ hx;have D:=vm E;have I:¬M<=(n:Int):=by simp only[It.count]at m;omega
  simp only[It.dr,zy]at hi;obtain⟨d,L⟩:=hi;have w:=lf s _ 0 L;simp only[zQ]at w;simp only[Ty.gS]at i;replace d:=qf d;obtain⟨rfl,G,S⟩:=d;have B:∀j (h:j<l.length),(Ty.mk 5 z l c).at (0+j)=l[j]:=fun j h=>by unfold Ty.at;simp[h]
  simp only[It.count]at m;rw[nn,uh I];exact Kt (M:=M) (t:= .mk 5 z l c) l s ((l.length:Int)-c).toNat 0 (n+1) B (by omega) G (fun j y e n q H=>by
   have F:=zR y;have o:=w j y;have A:=B j e;rw[zQ]at A;rw[A]at o;have C:=EX i j e;have K:=dT J j e;generalize l[j]=a at*;obtain⟨O,U,al,at_⟩:=a;exact Pn M u _ _ n q K (lP C).2 (nk C o q) o (D _ F) H) (by omega)
 have:=Pn M u x t n [] r i (fun h=>absurd h p) hi hx m;rw[yW]at this;rw[this];exact⟨rfl,rfl⟩
theorem My (t:Ty)(x:It)(M:Int)(h:jO t x M=0)(s:ByteArray)(i:s.data.toList=x.lay t):(jP t s M).1=0:=by
 obtain⟨c,j,q⟩:=Mo h;obtain⟨_,n,_,_,k⟩:=lQ c;obtain⟨_,l,e⟩:=BX j;obtain⟨d,p,o⟩:=sY l;have b:=WK (min M 1024) (by omega) x t 0 n k e d (by omega);rw[<-i]at b;change(ox t s M).e=0/\(ox t s M).q= []at b
 have m:dt t s M=(0,(ox t s M).x,s.size):=by unfold dt;rw[zh (by simp[c]),zh (by simp[b.1]),b.2];simp
 unfold jP;rw[m];simp
def aJ (c:aI)(l:List bD)(s:ByteArray):Int×Ms×Nat×Nat:=
 if(aw c s).1≠0 then((aw c s).1,rM,(aw c s).2.2.1,(aw c s).2.2.2)else((fh c l (aw c s).2.1).1,(fh c l (aw c s).2.1).2,(aw c s).2.2.1,(aw c s).2.2.2)
theorem Ku {c:aI}{l:List bD}(h:(aw c s).1≠0):aJ c l s=((aw c s).1,rM,(aw c s).2.2.1,(aw c s).2.2.2):=by unfold aJ;rw[zi h]
theorem vw {c:aI}{l:List bD}(h:(aw c s).1=0):aJ c l s=((fh c l (aw c s).2.1).1,(fh c l (aw c s).2.1).2,(aw c s).2.2.1,(aw c s).2.2.2):=by unfold aJ;rw[zh (by simp[h])]
theorem jQ {c:aI}{l:List bD}:(aJ c l s).1=2↔(aw c s).1=2:=by
 by_cases h:(aw c s).1=0
 ·rw[vw h,h];exact⟨fun b=>absurd b (Mw _ _ _),(by intro h;cases h)⟩
 rw[Ku h]
theorem B8 {c:aI}{l:List bD}(h:(aJ c l s).1=0):(aw c s).1=0/\(fh c l (aw c s).2.1).1=0:=by
 by_cases b:(aw c s).1=0
 ·rw[vw b]at h;exact⟨b,h⟩
 rw[Ku b]at h;exact absurd h b
theorem gy (c:aI)(l:List bD)(s:ByteArray):(aJ c l s).2.2=(aw c s).2.2:=by unfold aJ;split<;>rfl
theorem cN (c:aI)(l:List bD):kG (aJ c l):=by
 have b:=fe c;refine⟨fun s h=> ?_,fun s t h=> ?_,fun s h=> ?_⟩
 ·have:=b.pos s (B8 h).1;rw[gy];exact this
 ·have e:=b.ext s t (fun d=>h (jQ.2 d));unfold aJ;rw[e]
 rw[gy];exact b.short s (jQ.1 h)
theorem Mz {c:aI}(b:c.right=true)(l:List bD):(aJ c l ByteArray.empty).1=2:=jQ.2 (Ia b)
def cO (c:aI)(l:List bD)(nm:ByteArray)(x:It):ByteArray×Int:=if(bI c l nm x).2≠0 then(ByteArray.empty,(bI c l nm x).2)else fE c (bI c l nm x).1
theorem Fe {c:aI}{l:List bD}(h:(cO c l nm x).2=0):(bI c l nm x).2=0/\cO c l nm x=fE c (bI c l nm x).1:=by
 unfold cO at h⊢;by_cases b:(bI c l nm x).2≠0
 ·rw[zi b]at h;exact absurd h b
 rw[zh b];exact⟨zC.1 b,rfl⟩
theorem Py {c:aI}(h:(fE c f).2≠0):(fE c f).1=ByteArray.empty:=by
 unfold fE at h⊢;split
 ·split
  ·rfl
  split
  ·rfl
  rename_i b d e
  rw[zi b,zh d,zh e]at h;exact absurd rfl h
 rfl
def Pz (l:List bD):Prop:=∀e∈l,e.id<18446744073709551616
theorem Ff {c:aI}{l:List bD}(hid:Pz l)(h:(bI c l nm x).2=0):(bI c l nm x).1.id<18446744073709551616:=by
 obtain⟨e,b,_,d⟩:=qi h;rw[d];split
 ·simp
 exact hid e (nr b).1
theorem TF {c:aI}{l:List bD}(j:cX c l)(h:(bI c l nm x).2=0)(hz:x.gN.length<18446744073709551616):
 ∃y,fh c l (bI c l nm x).1=(0,⟨nm,y⟩)/\(c.fm≠1->y=x)/\bI c l nm y=((bI c l nm x).1,0):=by
 by_cases b:c.fm=1
 ·obtain⟨e,m,d,k⟩:=qi h;obtain⟨p,rfl⟩:=nr m;rw[zi b]at k;have o:gh c l (bI c l e.name x).1=some e:=vt j p (by rw[k];simp[mG,b]);have n:(dD c e.shape (bY c e.shape x).1).1=0:=by
   unfold bY at d⊢;rw[zi b]at d⊢;unfold dD;rw[zi b];unfold oJ at d⊢;by_cases i:jO e.shape x c.it=0
   ·rw[zi i];exact My e.shape x c.it i _ (by simp)
   rw[zh i]at d;exact absurd d i
  have hd:fh c l (bI c l e.name x).1=(0,⟨e.name,(dD c e.shape (bY c e.shape x).1).2⟩):=by
   unfold fh;rw[o];simp only[k,n,xJ]
  refine⟨_,hd,fun h=>absurd b h, ?_⟩;have:=Is j (f:=(bI c l e.name x).1) (by rw[hd]);rw[hd]at this;exact this
 have hd:=Ir j b h hz;refine⟨x,hd,fun _=>rfl,ZA rfl h⟩
theorem TG {c:aI}{l:List bD}(d:c.right=true)(p:cX c l)(hid:Pz l)(h:(cO c l nm x).2=0)(hz:x.gN.length<18446744073709551616):
 ∃y k,(∀T,aJ c l ((cO c l nm x).1++T)=(0,⟨nm,y⟩,(cO c l nm x).1.size,k))/\(c.fm≠1->y=x)/\cO c l nm y=cO c l nm x:=by
 obtain⟨j,m⟩:=Fe h;obtain⟨y,hd,o,q⟩:=TF p j hz;have r:fE c (bI c l nm x).1=((cO c l nm x).1,0):=by rw[<-m];exact ZA rfl h
 have n:=fun T=>(Pg (Ff hid j) r T).1
 obtain⟨k,b⟩:=n ByteArray.empty;have i:∀T,aw c ((cO c l nm x).1++T)=(0,(bI c l nm x).1,(cO c l nm x).1.size,k):=fun T=>by
  have e:=(fe c).ext (cO c l nm x).1 T (by rw[bL d];rw[k8]at b;rw[b];simp);rw[e,bL d];rw[k8]at b;exact b
 refine⟨y,k,fun T=> ?_,o, ?_⟩
 ·rw[vw (by rw[i]),i,hd]
 rw[m];unfold cO;rw[q,zh (by simp)]
theorem PA {c:aI}{l:List bD}(b:c.right=true)(i:cX c l)(hid:Pz l)(h:(cO c l nm x).2=0)(hz:x.gN.length<18446744073709551616):
 ∃y k,(∀T,split (aJ c l) ((cO c l nm x).1++T)=(split (aJ c l) T).cons ⟨nm,y⟩ k)/\split (aJ c l) (cO c l nm x).1=([⟨nm,y⟩],ByteArray.empty,k,0)/\(c.fm≠1->y=x)/\cO c l nm y=cO c l nm x:=by
 obtain⟨y,k,d,e,j⟩:=TG b i hid h hz;have key:∀T,split (aJ c l) ((cO c l nm x).1++T)=(split (aJ c l) T).cons ⟨nm,y⟩ k:=fun T=>by
  rw[cU (cN c l) (by rw[d]),d];simp only;rw[J4 _ _ _ (zg _)];have:(cO c l nm x).1.extract (cO c l nm x).1.size (cO c l nm x).1.size++T=T:=by
   apply aM;rw[bc,ar,cT,zH (by rw[aa];exact zg _),yy]
  rw[this]
 refine⟨y,k,key, ?_,e,j⟩;have:=key ByteArray.empty;rw[k8,dz (cN c l) (Mz b l)]at this;rw[this];rfl
theorem PC {c:aI}(b:c.right=true){l:List bD}(h:(aJ c l s).1=2):(s.size:Int)<max (eV c) 10:=H' b (by rw[<-bL b];exact jQ.1 h)
theorem lg (c:aI)(s:ByteArray):(aw c s).2.2.2<=65536:=by
 unfold aw;by_cases b:c.right=true
 ·rw[zi b];have:=(c.bB).1 b;unfold bg;split
  ·exact yk _
  split
  ·exact yk _
  show(aQ c.fr c.un s).2.2.2.2<=65536
  rw[bC];split
  ·exact yk _
  split
  ·exact yk _
  split
  ·exact yk _
  rename_i h
  split
  ·show(aB (aj c.fr s).2.2.1).1<=65536;omega
  show(aB (aj c.fr s).2.2.1).1<=65536;omega
 rw[zh b];exact yk _
theorem MA (c:aI)(s:ByteArray):(split (aw c) s).2.2.1<=65536*(s.size+1):=by
 have h:=fe c;induction s using dQ h with
 |stop s h0=>
  rw[dP h,zh h0];have:=lg c s;show(aw c s).2.2.2<=_
  omega
 |go s h0 ih=>
  rw[cU h h0];obtain⟨b,d⟩:=h.pos s h0;have e:=ig s _ b d;have:=lg c s;show(aw c s).2.2.2+(split (aw c) (s.extract (aw c s).2.2.1 s.size)).2.2.1<=_
  have:65536*((s.extract (aw c s).2.2.1 s.size).size+1)<=65536*s.size:=Nat.mul_le_mul_left _ (by omega);omega
theorem Iu (c:aI)(s:ByteArray)(h:s.size<=1099511627776):(aw c s).2.1.body.size<=1099511627776:=by
 by_cases b:c.right=true
 ·have d:=(c.bB).1 b;rw[bL b];have:=(Ml c s).2;omega
 have e:aw c s=(1,rD,0,0):=by unfold aw;rw[zh b]
 rw[e];exact yk _
structure s0 {α:Type}(nx:Nx α)(x:eZ)(s:ByteArray)(l:List α):Prop where
 fault:x.fault=(split nx s).2.2.2
 told:l=(split nx s).1
 buf:x.fault=0->x.buf=(split nx s).2.1
theorem s0.new {c:Type}{b:Nx c}(h:kG b)(d:(b ByteArray.empty).1=2):s0 b eZ.new ByteArray.empty ([]:List c):=by
 have:=dz h d;exact⟨by rw[this];rfl,by rw[this],fun _=>by rw[this];rfl⟩
theorem s0.iI {d:Type}{c:Nx d}(h:kG c){x:eZ}{l:List d}(hx:s0 c x s l)(t:ByteArray):s0 c (iI c x t).1 (s++t) (l++(iI c x t).2.1):=by
 by_cases b:x.fault=0
 ·have e:=uD h s t (by rw[<-hx.fault];exact b);rw[dw b,hx.buf b,hx.told];exact⟨by rw[e],by rw[e],fun _=>by rw[e]⟩
 have e:=uC h s t;rw[zh (by rw[<-hx.fault];exact b)]at e;rw[cc b,hx.told];exact⟨by rw[e];exact hx.fault,by rw[e];simp,fun i=>absurd i b⟩
theorem s0.same {d:Type}{c:Nx d}{x:eZ}{l m:List d}(hx:s0 c x s l)(b:s0 c y s m):l=m/\x.fault=y.fault/\(x.fault=0->x.buf=y.buf):=
 ⟨hx.told.trans b.told.symm,hx.fault.trans b.fault.symm,fun h=>(hx.buf h).trans (b.buf (by rw[b.fault,<-hx.fault];exact h)).symm⟩
theorem TH (c:aI)(l:List bD)(s:ByteArray):(split (aJ c l) s).2.2.2=0->(split (aw c) s).2.2.2=0/\(split (aw c) s).2.1=(split (aJ c l) s).2.1/\(split (aw c) s).2.2.1=(split (aJ c l) s).2.2.1/\(split (aw c) s).1.length=(split (aJ c l) s).1.length:=by
 induction s using dQ (cN c l)with
 |stop s h0=>
  intro h;by_cases b:(aJ c l s).1=2
  ·rw[dz (cN c l) b,dz (fe c) (jQ.1 b)];exact⟨rfl,rfl,rfl,rfl⟩
  rw[nT (cN c l) h0 b]at h;exact absurd h h0
 |go s h0 ih=>
  intro h;have d:=(B8 h0).1;have hz:=gy c l s;rw[cU (cN c l) h0]at h⊢;rw[cU (fe c) d];have e:(aJ c l s).2.2.1=(aw c s).2.2.1:=by rw[hz]
  have b:(aJ c l s).2.2.2=(aw c s).2.2.2:=by rw[hz]
  rw[e]at ih h⊢;obtain⟨i,a2,a3,a4⟩:=ih h;refine⟨i,a2, ?_, ?_⟩
  ·show(aw c s).2.2.2+_=(aJ c l s).2.2.2+_
   rw[b,a3]
  show(_::_).length=(_::_).length
  simp only[zx];rw[a4]
theorem TJ {c:aI}(d:c.fm≠3)(l:List bD)(s:ByteArray):(split (aJ c l) s).2.2.1=0:=by
 have b:∀s,(aJ c l s).2.2.2=0:=fun s=>by rw[gy];exact Ih d s
 induction s using dQ (cN c l)with
 |stop s h0=>rw[dP (cN c l),zh h0];exact b s
 |go s h0 ih=>
  rw[cU (cN c l) h0];show(aJ c l s).2.2.2+_=0
  rw[b,ih]
theorem PD {c:aI}(d:c.right=true)(h:c.fm=3)(l:List bD)(s:ByteArray):((split (aJ c l) s).2.2.1:Int)<=c.un*(((split (aJ c l) s).1.length:Int)+1):=by
 have b:∀s,((aJ c l s).2.2.2:Int)<=c.un:=fun s=>by rw[gy];exact(ER d h s).2
 induction s using dQ (cN c l)with
 |stop s h0=>
  rw[dP (cN c l),zh h0];have:=b s;simpa using this
 |go s h0 ih=>
  rw[cU (cN c l) h0];have:=b s;have e:c.un*(((((split (aJ c l) (s.extract (aJ c l s).2.2.1 s.size)).1.length+1:Nat)):Int)+1)=c.un+c.un*(((split (aJ c l) (s.extract (aJ c l s).2.2.1 s.size)).1.length:Int)+1):=by
   rw[Int.natCast_add,Int.mul_add,Int.mul_add,Int.mul_add];simp;omega
  show(((aJ c l s).2.2.2+(split (aJ c l) (s.extract (aJ c l s).2.2.1 s.size)).2.2.1:Nat):Int)<=c.un*(((((split (aJ c l) (s.extract (aJ c l s).2.2.1 s.size)).1.length+1:Nat)):Int)+1)
  rw[e,Int.natCast_add];omega
theorem WL {c:aI}(b:c.right=true)(l:List bD)(s:ByteArray)(d:(split (aJ c l) s).2.2.2=0):((split (aJ c l) s).2.1.size:Int)<max (eV c) 10:=
 PC b ((uB (cN c l) s).1 d)
theorem PF (c:aI)(l:List bD)(s:ByteArray):(split (aJ c l) s).1.length<=s.size:=by
 induction s using dQ (cN c l)with
 |stop s h0=>rw[dP (cN c l),zh h0];simp
 |go s h0 ih=>
  obtain⟨b,d⟩:=(cN c l).pos s h0;have hz:(s.extract (aJ c l s).2.2.1 s.size).size=s.size-(aJ c l s).2.2.1:=an _ _ _ (zg _);rw[cU (cN c l) h0];show(_::_).length<=_
  simp only[zx];omega
theorem Iv (c:aI)(l:List bD)(s:ByteArray):(split (aJ c l) s).2.1.size<=s.size:=by
 obtain⟨k,b,e⟩:=mn (cN c l) s;rw[e,an _ _ _ (zg _)];omega
theorem WM (c:aI)(l:List bD)(s:ByteArray):(split (aJ c l) s).2.2.1<=65536*(s.size+1):=by
 have h:=cN c l;have b:∀s,(aJ c l s).2.2.2<=65536:=fun s=>by rw[gy];exact lg c s
 induction s using dQ h with
 |stop s h0=>
  rw[dP h,zh h0];have:=b s;show(aJ c l s).2.2.2<=_
  omega
 |go s h0 ih=>
  rw[cU h h0];obtain⟨d,e⟩:=h.pos s h0;have i:=ig s _ d e;have:=b s;show(aJ c l s).2.2.2+(split (aJ c l) (s.extract (aJ c l s).2.2.1 s.size)).2.2.1<=_
  have:65536*((s.extract (aJ c l s).2.2.1 s.size).size+1)<=65536*s.size:=Nat.mul_le_mul_left _ (by omega);omega
theorem lt_of_cell {w:World}{b:Nat}(h:w.cell? ⟨b,o,none⟩=some v):b<w.heap.size:=by
 rcases xG b w.heap.size with h'|h'
 ·exact h'
 simp[World.cell?,xQ h']at h
mutual
def dX (w:World)(B:Nat):It->Value->Value->Value->Prop
 | .mk t l s,c0,c1,c2=>c0= .string t/\c1= .bool l/\t.size<=9223372036854775807/\s.length<=9223372036854775807/\∃A cap,c2= .slice A s.length cap/\s.length<=cap/\cap<=9223372036854775807/\cl w B s A 0
def cl (w:World)(B:Nat):List It->Option Addr->Nat->Prop
 | [],_,_=>True
 |x::xs,A,i=>(∃b o c0 c1 c2,A=some ⟨b,o,none⟩/\b<B/\w.cell? ⟨b,o+i*3,none⟩=some c0/\w.cell? ⟨b,o+i*3+1,none⟩=some c1/\w.cell? ⟨b,o+i*3+2,none⟩=some c2/\dX w B x c0 c1 c2)/\cl w B xs A (i+1)
end
theorem cl.at_ {w:World}:∀{s:List It} {i:Nat},cl w B s A i->∀(j:Nat) (h:j<s.length),∃b o e c d,A=some ⟨b,o,none⟩/\b<B/\w.cell? ⟨b,o+(i+j)*3,none⟩=some e/\w.cell? ⟨b,o+(i+j)*3+1,none⟩=some c/\w.cell? ⟨b,o+(i+j)*3+2,none⟩=some d/\dX w B s[j] e c d
 | [],_,_,j,h=>by simp at h
 |x::xs,i,hi,0,_=>by simpa[cl]using hi.1
 |x::xs,i,hi,j+1,h=>by
  have:=cl.at_ hi.2 j (by simpa using h);rw[show i+1+j=i+(j+1)from by omega]at this;simpa using this
theorem cl.GM {w:World}:∀{s:List It} {i:Nat},(∀(j:Nat) (h:j<s.length),∃b o e c d,A=some ⟨b,o,none⟩/\b<B/\w.cell? ⟨b,o+(i+j)*3,none⟩=some e/\w.cell? ⟨b,o+(i+j)*3+1,none⟩=some c/\w.cell? ⟨b,o+(i+j)*3+2,none⟩=some d/\dX w B s[j] e c d)->cl w B s A i
 | [],_,_=>by simp[cl]
 |x::xs,i,h=>by
  refine⟨h 0 (Nat.zero_lt_succ _),cl.GM fun j k=> ?_⟩;have:=h (j+1) (by simpa using k);rw[show i+(j+1)=i+1+j from by omega]at this;simpa using this
theorem dX.open_ {w:World}{c d b:Value}(h:dX w B x c d b):∃A cap,c= .string x.text/\d= .bool x.list/\b= .slice A x.sub.length cap/\x.text.size<=9223372036854775807/\x.sub.length<=cap/\cap<=9223372036854775807/\cl w B x.sub A 0:=by
 cases x with
 |mk t l s=>
  obtain⟨m,i,o,p,A,cap,j,n,e,k⟩:=h;exact⟨A,cap,m,i,j,o,n,e,k⟩
theorem dX.ag {w:World}(J:B<=n)(k:∀p:Addr,p.block<B->w'.cell? p=w.cell? p):∀(x:It) {i d c:Value},dX w B x i d c->dX w' n x i d c:=by
 intro x;induction x using It.ind with
 |h t l s ih=>
  intro i d c h;obtain⟨u,G,F,y,A,cap,H,r,q,I⟩:=h;refine⟨u,G,F,y,A,cap,H,r,q,cl.GM fun j m=> ?_⟩;obtain⟨b,o,d0,d1,d2,z,e,C,D,E,hi⟩:=I.at_ j m;exact⟨b,o,d0,d1,d2,z,by omega,(k _ e).trans C,(k _ e).trans D,(k _ e).trans E,ih _ (zR m) hi⟩
theorem dX.below {w:World}{c d b:Value}(h:dX w B x c d b)(i:Below B w w'):dX w' B x c d b:=dX.ag (zg _) (fun _ e=>i.cell e) x h
theorem dX.mono {w:World}{e:Nat}{c d b:Value}(h:dX w B x c d b)(i:B<=e):dX w e x c d b:=dX.ag i (fun _ _=>rfl) x h
theorem cl.below {w:World}{s:List It}(h:cl w B s A i)(d:Below B w w'):cl w' B s A i:=cl.GM fun j m=>by
 obtain⟨b,o,d0,d1,d2,e,c,l,k,n,hi⟩:=h.at_ j m;exact⟨b,o,d0,d1,d2,e,c,(d.cell c).trans l,(d.cell c).trans k,(d.cell c).trans n,hi.below d⟩
def lT (w:World)(B:Nat):List It->List Value->Prop
 | [],cs=>cs= []
 |x::xs,cs=>∃c0 c1 c2 ds,cs=c0::c1::c2::ds/\dX w B x c0 c1 c2/\lT w B xs ds
theorem lT.length {w:World}:∀{s:List It} {b:List Value},lT w B s b->b.length=s.length*3
 | [],b,h=>by simp[lT]at h;simp[h]
 |x::xs,b,h=>by
  obtain⟨e,j,d,i,rfl,_,c⟩:=h;have:=c.length;simp only[zx,this];omega
theorem lT.ag {w:World}{d:Nat}(c:B<=d)(e:∀p:Addr,p.block<B->w'.cell? p=w.cell? p):∀{s:List It} {b:List Value},lT w B s b->lT w' d s b
 | [],b,h=>h
 |x::xs,b,h=>by
  obtain⟨j,l,i,k,rfl,m,n⟩:=h;exact⟨j,l,i,k,rfl,dX.ag c e x m,n.ag c e⟩
theorem cl.cells {w:World}{b:Nat}:∀{s:List It} {i:Nat},cl w B s (some ⟨b,o,none⟩) i->∃m,lT w B s m/\∀j u,m[j]?=some u->w.cell? ⟨b,o+i*3+j,none⟩=some u
 | [],i,_=>⟨[],rfl,by simp⟩
 |x::xs,i,h=>by
  obtain⟨⟨z,A,e,l,d,c,_,n,p,r,hi⟩,q⟩:=h;injection c with c;injection c with hb ho;subst hb;subst ho;obtain⟨k,hd,y⟩:=q.cells;refine⟨e::l::d::k,⟨e,l,d,k,rfl,hi,hd⟩,fun j u hu=> ?_⟩;match j,hu with
  |0,hu=>simp at hu;subst hu;exact n
  |1,hu=>simp at hu;subst hu;exact p
  |2,hu=>simp at hu;subst hu;exact r
  |j+3,hu=>
   have:=y j u (by simpa using hu);rw[show o+i*3+(j+3)=o+(i+1)*3+j from by omega];exact this
theorem cl.fj {w:World}{b:Nat}(l:b<B):∀{s:List It} {i:Nat} {c:List Value},lT w B s c->(∀j u,c[j]?=some u->w.cell? ⟨b,o+i*3+j,none⟩=some u)->cl w B s (some ⟨b,o,none⟩) i
 | [],_,_,_,_=>trivial
 |x::xs,i,c,h,hc=>by
  obtain⟨e,k,d,p,rfl,m,n⟩:=h;refine⟨⟨b,o,e,k,d,rfl,l,by simpa using hc 0 e (by simp),hc 1 k (by simp),hc 2 d (by simp),m⟩,cl.fj l n fun j u hu=> ?_⟩;have:=hc (j+3) u (by simpa using hu);rw[show o+(i+1)*3+j=o+i*3+(j+3)from by omega];exact this
def mL (i:Int):Prop:= -9223372036854775808<=i/\i<=9223372036854775807
mutual
def cG (w:World)(B:Nat):Ty->Value->Value->Value->Value->Prop
 | .mk k s l t,c0,c1,c2,c3=>c0= .int .i64 k/\c1= .int .i64 s/\c3= .int .i64 t/\mL k/\mL s/\mL t/\l.length<=9223372036854775807/\∃A cap,c2= .slice A l.length cap/\l.length<=cap/\cap<=9223372036854775807/\fk w B l A 0
def fk (w:World)(B:Nat):List Ty->Option Addr->Nat->Prop
 | [],_,_=>True
 |x::xs,A,i=>(∃b o c0 c1 c2 c3,A=some ⟨b,o,none⟩/\b<B/\w.cell? ⟨b,o+i*4,none⟩=some c0/\w.cell? ⟨b,o+i*4+1,none⟩=some c1/\w.cell? ⟨b,o+i*4+2,none⟩=some c2/\w.cell? ⟨b,o+i*4+3,none⟩=some c3/\cG w B x c0 c1 c2 c3)/\fk w B xs A (i+1)
end
theorem fk.at_ {w:World}:∀{s:List Ty} {i:Nat},fk w B s A i->∀(j:Nat) (h:j<s.length),∃b o k c e d,A=some ⟨b,o,none⟩/\b<B/\w.cell? ⟨b,o+(i+j)*4,none⟩=some k/\w.cell? ⟨b,o+(i+j)*4+1,none⟩=some c/\w.cell? ⟨b,o+(i+j)*4+2,none⟩=some e/\w.cell? ⟨b,o+(i+j)*4+3,none⟩=some d/\cG w B s[j] k c e d
 | [],_,_,j,h=>by simp at h
 |x::xs,i,hi,0,_=>by simpa[fk]using hi.1
 |x::xs,i,hi,j+1,h=>by
  have:=fk.at_ hi.2 j (by simpa using h);rw[show i+1+j=i+(j+1)from by omega]at this;simpa using this
theorem fk.GM {w:World}:∀{s:List Ty} {i:Nat},(∀(j:Nat) (h:j<s.length),∃b o d e c k,A=some ⟨b,o,none⟩/\b<B/\w.cell? ⟨b,o+(i+j)*4,none⟩=some d/\w.cell? ⟨b,o+(i+j)*4+1,none⟩=some e/\w.cell? ⟨b,o+(i+j)*4+2,none⟩=some c/\w.cell? ⟨b,o+(i+j)*4+3,none⟩=some k/\cG w B s[j] d e c k)->fk w B s A i
 | [],_,_=>by simp[fk]
 |x::xs,i,h=>by
  refine⟨h 0 (Nat.zero_lt_succ _),fk.GM fun j l=> ?_⟩;have:=h (j+1) (by simpa using l);rw[show i+(j+1)=i+1+j from by omega]at this;simpa using this
theorem cG.open_ {w:World}{x:Ty}{c d b:Value}(h:cG w B x c d b e):∃A cap,c= .int .i64 x.kind/\d= .int .i64 x.size/\b= .slice A x.sub.length cap/\e= .int .i64 x.tail/\mL x.kind/\mL x.size/\mL x.tail/\x.sub.length<=cap/\cap<=9223372036854775807/\fk w B x.sub A 0:=by
 cases x with
 |mk k s l t=>
  obtain⟨r,o,q,m,j,n,z,A,cap,p,u,i,y⟩:=h;exact⟨A,cap,r,o,p,q,m,j,n,u,i,y⟩
theorem cG.ag {w:World}{r:Nat}(R:B<=r)(d:∀p:Addr,p.block<B->w'.cell? p=w.cell? p):∀(x:Ty) {m i e n:Value},cG w B x m i e n->cG w' r x m i e n:=by
 intro x;induction x using Ty.ind with
 |h k s l t ih=>
  intro m i e n h;obtain⟨D,M,O,L,F,K,E,A,cap,N,y,u,z⟩:=h;refine⟨D,M,O,L,F,K,E,A,cap,N,y,u,fk.GM fun j q=> ?_⟩;obtain⟨b,o,d0,d1,d2,d3,G,c,H,I,J,C,hi⟩:=z.at_ j q;exact⟨b,o,d0,d1,d2,d3,G,by omega,(d _ c).trans H,(d _ c).trans I,(d _ c).trans J,(d _ c).trans C,ih _ (zR q) hi⟩
theorem cG.below {w:World}{x:Ty}{c d b:Value}(h:cG w B x c d b e)(j:Below B w w'):cG w' B x c d b e:=cG.ag (zg _) (fun _ i=>j.cell i) x h
theorem cG.mono {w:World}{x:Ty}{c d b:Value}(h:cG w B x c d b e)(j:B<=i):cG w i x c d b e:=cG.ag j (fun _ _=>rfl) x h
theorem fk.ag {w:World}{e:Nat}(q:B<=e)(c:∀p:Addr,p.block<B->w'.cell? p=w.cell? p){s:List Ty}(h:fk w B s A i):fk w' e s A i:=fk.GM fun j r=>by
 obtain⟨b,o,d0,d1,d2,d3,k,d,l,m,u,n,hi⟩:=h.at_ j r;exact⟨b,o,d0,d1,d2,d3,k,by omega,(c _ d).trans l,(c _ d).trans m,(c _ d).trans u,(c _ d).trans n,hi.ag q c⟩
theorem fk.below {w:World}{s:List Ty}(h:fk w B s A i)(c:Below B w w'):fk w' B s A i:=h.ag (zg _) (fun _ b=>c.cell b)
theorem aS {w:World}{g:Nat}{t:TypeId}{b c d:Value}(h:af w g t #[a,b,c,d]):w.cell? ⟨g,0,none⟩=some a/\w.cell? ⟨g,1,none⟩=some b/\w.cell? ⟨g,2,none⟩=some c/\w.cell? ⟨g,3,none⟩=some d/\w.frozen? ⟨g,0,none⟩=false/\w.frozen? ⟨g,1,none⟩=false/\w.frozen? ⟨g,2,none⟩=false/\w.frozen? ⟨g,3,none⟩=false:=
 ⟨h.cell 0,h.cell 1,h.cell 2,h.cell 3,h.frozen 0,h.frozen 1,h.frozen 2,h.frozen 3⟩
theorem MB {w:World}{t:TypeId}{b c d:Value}(e:Below (w.heap.size+1) (w.alloc (.cells #[a,b,c,d] t)) w'):w'.cell? ⟨w.heap.size,0,none⟩=some a/\w'.cell? ⟨w.heap.size,1,none⟩=some b/\w'.cell? ⟨w.heap.size,2,none⟩=some c/\w'.cell? ⟨w.heap.size,3,none⟩=some d:=by
 have i:=af.new w t #[a,b,c,d];have h:af w' w.heap.size t #[a,b,c,d]:=(e.block _ (by omega)).trans i;exact⟨h.cell 0,h.cell 1,h.cell 2,h.cell 3⟩
theorem B9 (n:Nat):(madeCells #[Value.int .u8 0] n).toList=cb (List.replicate n 0):=by
 have:=uQ n;rw[xW]at this;exact this
theorem MC (n:Nat):(madeCells #[Value.int .u8 0] n).size=n:=by
 have:=xo List.length (B9 n);rw[bj,xA]at this;simpa using this
theorem mq {P:Program}(w:World){o:Oper}{a:Act}
 (B:o.guard=none) (l c:Operand) (t:TypeId) (x:o.op=Op.makeSlice t l c)
 (base:Nat) (e:TypeId) (i:TypeInfo) (A:P.underlying t=some (.slice e)) (hi:P.info? e=some i) (hz:i.zero=some (.int .u8 0)) (y:i.size=1) (u:i.bytes=1)
 (p h:IntKind) (m n:Nat) (r:a.eval l= .int p (m:Int)) (C:a.eval c= .int h (n:Int)) (j:m<=n) (D:n<=281474976710656) (k:base<=w.heap.size)
 (s:∀w',bF w' base e (.slice (some ⟨w.heap.size,0,none⟩) m n) (List.replicate m 0)->Kept e base w w'->Below w.heap.size w w'->wpList P ops Q rest (a.put o.dst (.slice (some ⟨w.heap.size,0,none⟩) m n)) w'):
 wpList P ops Q (o::rest) a w:=by
 refine wpList_plain B fun K z=> ?_
 have b:=run_make (P:=P) w t e i (.int .u8 0) A hi hz p h m n (by omega) (by omega) (by rw[u];omega) (by omega);simp only[Int.toNat_natCast,y,xW]at b;have q:bF (w.alloc (.cells (madeCells #[Value.int .u8 0] n) e)) base e (.slice (some ⟨w.heap.size,0,none⟩) m n) (List.replicate m 0):=by
  refine⟨some ⟨w.heap.size,0,none⟩,n,by rw[xA],by rw[xA];exact j,by omega,.inr ⟨w.heap.size,madeCells #[Value.int .u8 0] n,(0,0),rfl,k,yR w _,MC n, ?_,.inl rfl⟩⟩;rw[xA,B9,<-Tk,List.take_replicate,yF j]
 have d:Below w.heap.size w (w.alloc (.cells (madeCells #[Value.int .u8 0] n) e)):=(zm _ w).alloc (zg _) _;unfold Oper.wp;simp[execOp,x,r,C,b,Result.andThen];exact z _ _ (s _ q (Kept.ah d (zg _) k) d)
def fO (L:List UInt8)(a b:Nat):Prop:=L[a]?=L[b]?/\L[a+1]?=L[b+1]?/\L[a+2]?=L[b+2]?/\L[a+3]?=L[b+3]?
instance (L :List UInt8)(a b:Nat):Decidable (fO L a b):=by unfold fO;infer_instance
theorem fO.symm {L:List UInt8}{a b:Nat}(h:fO L a b):fO L b a:=⟨h.1.symm,h.2.1.symm,h.2.2.1.symm,h.2.2.2.symm⟩
theorem fO.trans {L:List UInt8}{a b c:Nat}(h:fO L a b)(k:fO L b c):fO L a c:=⟨h.1.trans k.1,h.2.1.trans k.2.1,h.2.2.1.trans k.2.2.1,h.2.2.2.trans k.2.2.2⟩
def jR (L:List UInt8)(a:Nat):Nat->Option Nat
 |0=>none
 |n+1=>if n+4<=L.length/\fO L n a then some n else jR L a n
theorem mt4 (L:List UInt8)(j i:Nat)(h:j<i)(hi:i<=L.length):4<=mt L j i 64↔i+4<=L.length/\fO L j i:=by
 constructor
 ·intro d;have b:=(BK L 64 j i).2 hi;exact⟨by omega,Ez L 64 j i 0 (by omega),Ez L 64 j i 1 (by omega),Ez L 64 j i 2 (by omega),Ez L 64 j i 3 (by omega)⟩
 rintro⟨b,g0,g1,g2,g3⟩;have c:mt L j i 64=mt L (j+4) (i+4) 60+4:=by
  rw[mt,zi ⟨by omega,g0⟩,mt,zi ⟨by omega,g1⟩,mt,zi ⟨by omega,g2⟩,mt,zi ⟨by omega,g3⟩]
 omega
theorem vx (L:List UInt8)(i:Nat)(hi:i<=L.length)(h:¬i+4<=L.length):∀k,k<=i->Ho L i k=none:=by
 intro k;induction k with
 |zero=>intro _;rfl
 |succ k ih=>
  intro c;rw[Ho,zh (by rw[mt4 L k i (by omega) hi];exact fun b=>h b.1)];exact ih (by omega)
theorem PG (L:List UInt8)(i:Nat)(hi:i+4<=L.length):∀k,k<=i->Ho L i k=jR L i k:=by
 intro k;induction k with
 |zero=>intro _;rfl
 |succ k ih=>
  intro c;rw[Ho,jR,ih (by omega)];by_cases h:fO L k i
  ·rw[zi ((mt4 L k i (by omega) (by omega)).2 ⟨hi,h⟩),zi ⟨by omega,h⟩]
  rw[zh (fun b=>h ((mt4 L k i (by omega) (by omega)).1 b).2),zh (fun b=>h b.2)]
theorem PH (L:List UInt8)(a:Nat):∀n j,jR L a n=some j->j<n:=by
 intro n;induction n with
 |zero=>intro j h;simp[jR]at h
 |succ n ih=>
  intro j h;rw[jR]at h;split at h
  ·injection h with h;omega
  have:=ih j h;omega
theorem Iw (L:List UInt8)(a n:Nat)(h:n+4<=L.length)(b:fO L n a):jR L a (n+1)=some n:=by rw[jR,zi ⟨h,b⟩]
theorem s5 (L:List UInt8)(a n:Nat)(h:¬(n+4<=L.length/\fO L n a)):jR L a (n+1)=jR L a n:=by rw[jR,zh h]
theorem af.at_ {b:World}{k:Nat}{t:TypeId}{c:Array Value}(hz:b.heap.size=k):af (b.alloc (.cells c t)) k t c:=hz▸af.new b t c
def qj (w:World)(B:Nat)(v:Value)(l:List bD):Prop:=∃A cap,v= .slice A l.length cap/\l.length<=cap/\cap<=9223372036854775807/\∀j (h:j<l.length),∃g o,A=some ⟨g,o,none⟩/\g<B/\w.cell? ⟨g,o+j*3,none⟩=some (.int .u64 l[j].id)/\w.cell? ⟨g,o+j*3+1,none⟩=some (.string l[j].name)/\w.cell? ⟨g,o+j*3+2,none⟩=some (.string l[j].ty)
theorem qj.ag {w:World}{d:Nat}{l:List bD}(h:qj w B v l)(x:B<=d)(c:∀p:Addr,p.block<B->w'.cell? p=w.cell? p):qj w' d v l:=by
 obtain⟨A,cap,m,n,s,u⟩:=h;refine⟨A,cap,m,n,s,fun j q=> ?_⟩;obtain⟨g,o,e,b,i,k,r⟩:=u j q;exact⟨g,o,e,by omega,(c _ b).trans i,(c _ b).trans k,(c _ b).trans r⟩
theorem qj.below {w:World}{l:List bD}(h:qj w B v l)(c:Below B w w'):qj w' B v l:=h.ag (zg _) (fun _ b=>c.cell b)
theorem qj.mono {w:World}{b:Nat}{l:List bD}(h:qj w B v l)(c:B<=b):qj w b v l:=h.ag c (fun _ _=>rfl)
theorem qj.cF {w:World}{l:List bD}(h:qj w B v l):∃A n cap,v= .slice A n cap/\Hid (n=l.length)/\n<=cap/\cap<=9223372036854775807:=by
 obtain⟨A,cap,b,c,d,_⟩:=h;exact⟨A,_,cap,b,za rfl,c,d⟩
theorem qj.at_ {w:World}{l:List bD}(h:qj w B (.slice A n cap) l)(d:j<l.length):∃g o,A=some ⟨g,o,none⟩/\g<B/\w.cell? ⟨g,o+j*3,none⟩=some (.int .u64 l[j].id)/\w.cell? ⟨g,o+j*3+1,none⟩=some (.string l[j].name)/\w.cell? ⟨g,o+j*3+2,none⟩=some (.string l[j].ty):=by
 obtain⟨e,i,c,k,m,b⟩:=h;injection c with hA _ _;subst hA;exact b j d
theorem qj.nil (w:World)(B:Nat):qj w B (.slice none 0 0) []:=⟨none,0,rfl,by simp,by simp,fun j b=>by simp at b⟩
def TK (l:List Fr):List Value:=l.flatMap fun f=> [.int .u64 f.id,.string f.nm,.string f.body]
theorem Ix (a b:List Fr):TK (a++b)=TK a++TK b:=by simp[TK]
theorem Kv (f:Fr):TK [f]= [.int .u64 f.id,.string f.nm,.string f.body]:=by simp[TK]
def Iy (w:World)(B:Nat)(v:Value)(l:List Fr):Prop:=∃A cap,v= .slice A l.length cap/\l.length<=cap/\cap<=9223372036854775807/\∀j (h:j<l.length),∃g o,A=some ⟨g,o,none⟩/\g<B/\w.cell? ⟨g,o+j*3,none⟩=some (.int .u64 l[j].id)/\w.cell? ⟨g,o+j*3+1,none⟩=some (.string l[j].nm)/\w.cell? ⟨g,o+j*3+2,none⟩=some (.string l[j].body)
theorem Iy.ag {w:World}{d:Nat}(h:Iy w B v l)(x:B<=d)(c:∀p:Addr,p.block<B->w'.cell? p=w.cell? p):Iy w' d v l:=by
 obtain⟨A,cap,m,n,s,u⟩:=h;refine⟨A,cap,m,n,s,fun j q=> ?_⟩;obtain⟨g,o,e,b,i,k,r⟩:=u j q;exact⟨g,o,e,by omega,(c _ b).trans i,(c _ b).trans k,(c _ b).trans r⟩
theorem Iy.below {w:World}(h:Iy w B v l)(c:Below B w w'):Iy w' B v l:=h.ag (zg _) (fun _ b=>c.cell b)
theorem Iy.mono {w:World}{b:Nat}(h:Iy w B v l)(c:B<=b):Iy w b v l:=h.ag c (fun _ _=>rfl)
theorem Iy.cF {w:World}(h:Iy w B v l):∃A n cap,v= .slice A n cap/\Hid (n=l.length)/\n<=cap/\cap<=9223372036854775807:=by
 obtain⟨A,cap,b,c,d,_⟩:=h;exact⟨A,_,cap,b,za rfl,c,d⟩
theorem Iy.at_ {w:World}(h:Iy w B (.slice A n cap) l)(d:j<l.length):∃g o,A=some ⟨g,o,none⟩/\g<B/\w.cell? ⟨g,o+j*3,none⟩=some (.int .u64 l[j].id)/\w.cell? ⟨g,o+j*3+1,none⟩=some (.string l[j].nm)/\w.cell? ⟨g,o+j*3+2,none⟩=some (.string l[j].body):=by
 obtain⟨e,i,c,k,m,b⟩:=h;injection c with hA _ _;subst hA;exact b j d
theorem Iy.nil (w:World)(B:Nat):Iy w B (.slice none 0 0) []:=⟨none,0,rfl,by simp,by simp,fun j b=>by simp at b⟩
abbrev nt (w:World)(lo:Nat)(v:Value)(l:List Fr):Prop:=w.ownsRow lo 84 3 v l.length (TK l)
theorem nt.nil (w:World)(b:Nat):nt w b (.slice none 0 0) []:=⟨rfl,.inl ⟨rfl,rfl⟩⟩
theorem nt.cF {w:World}(h:nt w j v l):∃A n cap,v= .slice A n cap/\Hid (n=l.length)/\n<=cap/\cap<=9223372036854775807:=by
 rcases h.2 with⟨i,k⟩|⟨m,c,o,d,r,s,e,b,p,q⟩
 ·exact⟨none,0,0,i,za k.symm,by omega,by simp⟩
 exact⟨_,_,c,d,za rfl,e,by simpa[maxLen]using b⟩
theorem nt.ag {w:World}{b:Nat}(h:nt w b v l)(c:∀k,b<=k->k<w.heap.size->w'.heap[k]?=w.heap[k]?):nt w' b v l:=by
 refine⟨h.1, ?_⟩;rcases h.2 with h2|⟨g,cap,cur,hv,hb,hh,r⟩
 ·exact .inl h2
 exact .inr ⟨g,cap,cur,hv,hb,(c g hb (yP hh)).trans hh,r⟩
theorem nt.below {w:World}{b:Nat}(h:nt w b v l)(d:Below w.heap.size w w'):nt w' b v l:=h.ag fun k _ c=>d.block k c
theorem nt.only {w:World}{b:Nat}(h:nt w b v l)(i:ae L w w')(c:∀g,g∈L->g<b):nt w' b v l:=h.ag fun k j e=>i.block k e (fun d=>by have:=c k d;omega)
theorem nt.ge {w:World}{c:Nat}(h:nt w c v l):∀g,v.ownBlock=some g->c<=g/\g<w.heap.size:=by
 intro g b;rcases h.2 with⟨i,n⟩|⟨d,cap,m,j,e,k,_⟩
 ·rw[i]at b;cases b
 rw[j]at b;have:d=g:=by simpa[Value.ownBlock]using b
 subst this;exact⟨e,yP k⟩
theorem Iz :(prog.info? 84).map (fun i=>(i.zero,i.size,i.bytes))=some (some (.agg #[.int .u64 0,.string ⟨#[]⟩,.string ⟨#[]⟩]),3,40):=by kernel_rfl
theorem WN (g j:Nat):(⟨g,0,none⟩:Addr).add j=⟨g,j,none⟩:=by unfold Addr.add;split<;>simp_all
theorem TM (g o j:Nat):(⟨g,o,none⟩:Addr).add j=⟨g,o+j,none⟩:=by unfold Addr.add;split<;>simp_all
theorem oy {w:World}{o:Oper}{a:Act}(z:o.guard=none)(s x:Operand)
 (B:o.op= .call {callee:= .builtin .append,args:= #[s,x],argTypes:= #[73,73]}) (c:Nat) (acc:List Fr)  (A:a.eval s=v) (E:nt w c v acc) (y:Fr)
 (g:Nat) (hx:a.eval x= .slice (some ⟨g,0,none⟩) 1 1) (n:w.cell? ⟨g,0,none⟩=some (.int .u64 y.id)) (D:w.cell? ⟨g,1,none⟩=some (.string y.nm)) (m:w.cell? ⟨g,2,none⟩=some (.string y.body))
 (G:acc.length<=1000000) (l:c<=w.heap.size)
 (p:∀b d cap w',Hid (d=(acc++ [y]).length)->nt w' c (.slice (some ⟨b,0,none⟩) d cap) (acc++ [y])->w.grownBy w' v.ownBlock->c<=b->wpList prog ops Q rest (a.put o.dst (.slice (some ⟨b,0,none⟩) d cap)) w'):wpList prog ops Q (o::rest) a w:=by
 obtain⟨i0,hi,i,r,q⟩:=yH Iz;refine y9 w z s x 73 B c 84 i0 _ 3 40 underlying73 hi i r q rfl (by decide) v acc.length (TK acc) A E ⟨g,0,none⟩ 1 1 (TK [y]) hx rfl ?_ (by simp[Kv,Value.oneCell']) (by decide) (by simp only[maxLen];omega) (by omega) l w.heap.size rfl ?_
 ·intro j u hu;rw[WN];rw[Kv]at hu;match j,hu with
  |0,hu=>simp at hu;subst hu;exact n
  |1,hu=>simp at hu;subst hu;exact D
  |2,hu=>simp at hu;subst hu;exact m
 intro b cap w' C k F H;have e:(acc++ [y]).length=acc.length+1:=by simp
 have h:nt w' c (.slice (some ⟨b,0,none⟩) (acc.length+1) cap) (acc++ [y]):=by rw[nt,Ix,e];exact C
 exact p b _ cap w' (za e.symm) (by simpa using h) k (h.ge b rfl).1
def pe (x y:eZ):Prop:=x.fault=0->y.fault=0/\y.buf=x.buf
theorem pe.new :pe eZ.new eZ.new:=fun _=>⟨rfl,rfl⟩
theorem pe.iI {x:eZ}(h:pe x y)(c:aI)(l:List bD)(s:ByteArray):
 pe (iI (aJ c l) x s).1 (iI (aw c) y s).1/\((iI (aJ c l) x s).2.2=0->(iI (aw c) y s).1.laid=(iI (aJ c l) x s).1.laid):=by
 by_cases d:x.fault=0
 ·obtain⟨e,i⟩:=h d;rw[dw d,dw e,i];have key:=TH c l (x.buf++s);refine⟨fun hz=> ?_,fun hz=> ?_⟩
  ·obtain⟨a,b,_,_⟩:=key hz;exact⟨a,b⟩
  obtain⟨_,_,a,_⟩:=key hz;show s.size+_=s.size+_
  rw[a]
 rw[cc d];exact⟨fun hz=>absurd hz d,fun hz=>absurd hz d⟩
theorem MD {c:aI}(e:c.right=true)(l:List bD)(x:eZ)(s:ByteArray):
 ((iI (aJ c l) x s).2.2=0->((iI (aJ c l) x s).1.buf.size:Int)<max (eV c) 10)/\
 (x.fault=0->s.size<=(iI (aJ c l) x s).1.laid)/\(x.fault≠0->(iI (aJ c l) x s).1.laid=0)/\
 (c.fm≠3->(iI (aJ c l) x s).1.laid<=s.size)/\(x.fault=0->c.fm=3->((iI (aJ c l) x s).1.laid:Int)<=s.size+c.un*(((iI (aJ c l) x s).2.1.length:Int)+1)):=by
 by_cases b:x.fault=0
 ·rw[dw b];refine⟨fun hz=>WL e l (x.buf++s) hz,fun _=> ?_,fun hz=>absurd b hz,fun d=> ?_,fun _ d=> ?_⟩
  ·show s.size<=s.size+_;omega
  ·show s.size+(split (aJ c l) (x.buf++s)).2.2.1<=_
   rw[TJ d];omega
  have:=PD e d l (x.buf++s);show((s.size+(split (aJ c l) (x.buf++s)).2.2.1:Nat):Int)<=_
  simp only;omega
 rw[cc b];exact⟨fun hz=>absurd hz b,fun hz=>absurd hz b,fun _=>rfl,fun _=>yk _,fun hz=>absurd hz b⟩
