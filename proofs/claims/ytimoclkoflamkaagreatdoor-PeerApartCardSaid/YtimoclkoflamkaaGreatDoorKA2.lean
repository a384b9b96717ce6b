/- Words for memory: a block that is known whole ('Blk'), a world that has turned at some blocks alone ('Only'), a slice that reads as a list ('Reads'). Own text; no program in sight. -/
import Derived.Test.YtimoclkoflamkaaGreatDoorKA1
import Derived.Deep.AppendLies
import Derived.Deep.Draws
import Derived.Lib.Hide
import Derived.Lib.AtoiErrMem
import Derived.Deep.Upon
import Derived.Deep.RegionLaw
import Derived.Maps.Range
set_option linter.all false
namespace Go.Proofs.YtimoclkoflamkaaGreatDoor
open Go.RowKit
variable {w a w':World}{base g n B cap k i h x:Nat}{E t:TypeId}{v d:Value}{l:List UInt8}{L M:List Nat}{xs:List Value}{p:Addr}{A:Option Addr}{o:Oper}{Q:Exit->Act->World->Prop}{ops:Array Oper}{row:Option Nat}{s:ByteArray}
def za:=@Lib.hid
def zm:=@Below.refl
def zB:=@World.cell?_of_block
def zG:=@Nat.le_trans
def zI:=@World.cell?_alloc_lt
def zJ:=@Nat.zero_add
def zK:=@List.drop_eq_nil_of_le
def zL:=@List.drop_zero
def zO:=@List.length_nil
def zR:=@List.take_succ_cons
def zS:=@Below.heap_setCell
def ya:=@List.drop_succ_cons
def yb:=@Nat.zero_le
def yd:=@Array.getElem?_eq_some_iff
def yo:=@List.nil_append
def yr:=@List.getElem?_take_of_lt
def yv:=@List.take_zero
def yJ:=@lt_of_block
def yM:=@heap_alloc_new
def yX:=@not_true_eq_false
def y7:=@List.getElem?_eq_some_iff
def xq:=@Array.getElem?_eq_none
def xu:=@List.take_take
def xG:=@Nat.mul_one
def xH:=@List.mem_map
def xN:=@if_false
def xV:=@List.getElem?_map
def xY:=@Nat.div_lt_of_lt_mul
def Ze:=@World.heap_setCells_other
def Zi:=@Array.getElem?_eq_getElem
def Zl:=@run_convert_bytes_string
def Zn:=@List.length_set
def Zo:=@grownCap_le_maxLen
def Zp:=@Nat.eq_zero_or_pos
def Zt:=@World.frozen?_of_block
def Zu:=@Nat.pow_succ
def Zw:=@Nat.add_comm
def Zx:=@List.size_toArray
def Zz:=@World.output_setCells
def ZB:=@Go.run_append_nothing
def ZC:=@Array.getElem?_modify
def ZE:=@List.take_length
def ZI:=@Below.heap_alloc
def ZP:=@World.news_of_block
def ZZ:=@Prod.ext
def Z1:=@Array.toList_setIfInBounds
def Z3:=@World.os_setCells
def Yd:=@List.drop_length
def Ye:=@wpList_plain
def Yo:=@ne_eq
def ag (w:World)(g:Nat)(t:TypeId)(cs:Array Value):Prop:=w.heap[g]?=some (.cells cs t (0,0))
theorem ag.lt {b:Array Value}(h:ag w g t b):g<w.heap.size:=yJ h
theorem ag.cell {w:World}{g:Nat}{t:TypeId}{b:Array Value}(h:ag w g t b)(i:Nat):w.cell? (g,i)=b[i]?:=by
 unfold ag at h;simp[World.cell?,h]
theorem ag.frozen {w:World}{g:Nat}{t:TypeId}{b:Array Value}(h:ag w g t b)(i:Nat):w.frozen? (g,i)=false:=by
 unfold ag at h;simp[World.frozen?,h]
theorem ag.new (w:World)(t:TypeId)(b:Array Value):ag (w.alloc (.cells b t)) w.heap.size t b:=yM w _
theorem ag.drew {b:Array Value}(h:ag w g t b):ag w.drew g t b:=h
theorem ag.drewN {b:Array Value}(h:ag w g t b)(n:Nat):ag (w.drewN n) g t b:=h
theorem ag.alloc {w:World}{g:Nat}{t:TypeId}{b:Array Value}(h:ag w g t b)(o:Obj):ag (w.alloc o) g t b:=(ZI w o g h.lt).trans h
theorem ag.set {b:Array Value}(h:ag w g t b)(i:Nat)(u:Value):ag (w.setCell (g,i) u) g t (b.setIfInBounds i u):=by
 unfold ag at h⊢;simp[World.setCell,ZC,h]
theorem ag.dE {b:Array Value}(h:ag w g t b)(c:g≠p.block)(u:Value):ag (w.setCell p u) g t b:=(zS w p u g c).trans h
theorem ag.beside {b:Array Value}(c:g≠p.block)(h:ag w g t b)(u:Value):ag (w.setCell p u) g t b:=h.dE c u
theorem ag.store {c b:Array Value}{u:Value}(h:ag w g t c)(e:c.setIfInBounds i u=b):ag (w.setCell (g,i) u) g t b:=e▸h.set i u
structure ae (L:List Nat)(w w':World):Prop where
 os:w'.os=w.os
 tape:w'.tape=w.tape
 output:w'.output=w.output
 size:w.heap.size<=w'.heap.size
 block:∀k,k<w.heap.size->k∉L->w'.heap[k]?=w.heap[k]?
theorem ae.refl (L:List Nat)(w:World):ae L w w:=⟨rfl,rfl,rfl,zd _,fun _ _ _=>rfl⟩
theorem ae.trans' {b c:World}(h:ae L a b)(k:ae M b c)(e:∀i,i∈M->i∈L\/a.heap.size<=i):ae L a c:=
 ⟨k.os.trans h.os,k.tape.trans h.tape,k.output.trans h.output,zG h.size k.size,fun i hi d=>
  (k.block i (zQ hi h.size) (fun j=>by rcases e i j with h1|h1;exact d h1;omega)).trans (h.block i hi d)⟩
theorem ae.trans {b c:World}(h:ae L a b)(k:ae L b c):ae L a c:=h.trans' k fun _ hi=> .inl hi
theorem ae.mono (h:ae L w w')(b:∀i,i∈L->i∈M):ae M w w':=⟨h.os,h.tape,h.output,h.size,fun k c e=>h.block k c (fun d=>e (b k d))⟩
theorem ae.drew (h:ae L a w):ae L a w.drew:=⟨h.os,h.tape,h.output,h.size,h.block⟩
theorem ae.drewN (h:ae L a w)(n:Nat):ae L a (w.drewN n):=⟨h.os,h.tape,h.output,h.size,h.block⟩
theorem ae.alloc {L:List Nat}{a w:World}(h:ae L a w)(o:Obj):ae L a (w.alloc o):=
 ⟨h.os,h.tape,h.output,zG h.size (by simp),fun k b c=>(ZI w o k (zQ b h.size)).trans (h.block k b c)⟩
theorem ae.setCell (h:ae L a w)(b:p.block∈L\/a.heap.size<=p.block)(u:Value):ae L a (w.setCell p u):=
 ⟨h.os,h.tape,h.output,by simpa[World.setCell]using h.size,fun k d c=>(zS w p u k (by
  rintro rfl;rcases b with b|b
  ·exact c b
  omega)).trans (h.block k d c)⟩
theorem ae.put (b:p.block∈L\/a.heap.size<=p.block)(h:ae L a w)(u:Value):ae L a (w.setCell p u):=h.setCell b u
theorem ae.eR (h:w.grownBy w' row):ae row.toList w w':=
 ⟨h.os,h.tape,h.output,h.size,fun k b c=>h.block k b (fun e=>c (by simp[<-e]))⟩
theorem ae.grown (h:ae L a w)(c:w.grownBy w' row)(b:∀k,row=some k->k∈L\/a.heap.size<=k):ae L a w':=
 h.trans' (ae.eR c) fun i hi=>b i (by simpa using hi)
theorem ae.ai (h:Below B w w')(b:w.heap.size<=B):ae [] w w':=⟨h.os,h.tape,h.output,h.size,fun k c _=>h.block k (by omega)⟩
theorem ae.below (h:ae L w w')(c:B<=w.heap.size)(b:∀i,i∈L->B<=i):Below B w w':=
 ⟨h.os,h.tape,h.output,h.size,fun k d=>h.block k (by omega) (fun hi=>by have:=b k hi;omega)⟩
theorem ae.cell {L:List Nat}{w w':World}(h:ae L w w'){p:Addr}(b:p.block<w.heap.size)(c:p.block∉L):w'.cell? p=w.cell? p:=zB (h.block _ b c)
theorem ae.frozen {L:List Nat}{w w':World}(h:ae L w w'){p:Addr}(b:p.block<w.heap.size)(c:p.block∉L):w'.frozen? p=w.frozen? p:=Zt (h.block _ b c)
theorem ag.only {b:Array Value}(h:ag w g t b)(d:ae L w w')(c:g∉L):ag w' g t b:=(d.block g h.lt c).trans h
theorem ae.own (h:ae L w w'){e:TypeId}{size:Nat}(i:w.ownsRow base e size v n xs)
 (c:∀g,v.ownBlock=some g->g∉L):w'.ownsRow base e size v n xs:=by
 obtain⟨d,b⟩:=i;refine⟨d, ?_⟩;rcases b with b|⟨g,cap,cur,hv,hg,hh,r⟩
 ·exact Or.inl b
 subst hv;exact Or.inr ⟨g,cap,cur,rfl,hg,(h.block g (yJ hh) (c g rfl)).trans hh,r⟩
def cb (l:List UInt8):List Value:=l.map fun b=> .int .u8 b.toNat
theorem aO (l:List UInt8):(cb l).length=l.length:=List.length_map ..
theorem eG (l m:List UInt8):cb (l++m)=cb l++cb m:=List.map_append ..
theorem EC (l:List UInt8)(j:Nat):(cb l)[j]?=(l[j]?).map fun b=> .int .u8 b.toNat:=xV ..
theorem uZ (l:List UInt8):∀u∈cb l,u.oneCell'=true:=by
 intro u hu;simp only[cb,xH]at hu;obtain⟨b,_,rfl⟩:=hu;rfl
theorem S4 (l:List UInt8)(k:Nat):cb (l.drop k)=(cb l).drop k:=by simp[cb]
theorem S5 (l:List UInt8)(k:Nat):cb (l.take k)=(cb l).take k:=by simp[cb]
theorem cx {e:TypeId}{size:Nat}{l:Array Value}(i:w.ownsRow base e size (.slice (some (h,0)) n cap) n xs)(c:ag w g t l)(k:e≠t):h≠g:=by
 rintro rfl;rcases i.2 with⟨j,_⟩|⟨o,p,m,b,_,d,_⟩
 ·cases j
 injection b with b;injection b with b;injection b with b;subst b;unfold ag at c;rw[d]at c;injection c with c;injection c with _ ht;exact k ht
theorem mK {e:TypeId}{size:Nat}(i:w.ownsRow base e size (.slice (some (h,0)) n cap) n xs):n<=cap/\cap<=9223372036854775807/\base<=h/\h<w.heap.size:=by
 rcases i.2 with⟨l,_⟩|⟨o,p,m,b,c,d,j,k,_⟩
 ·cases l
 injection b with b tW Ek;injection b with b;injection b with b;subst b;subst Ek;exact⟨j,by simpa[maxLen]using k,c,yJ d⟩
theorem mL {e:TypeId}{size:Nat}(d:w.ownsRow base e size v n xs)(b:v≠ .slice none 0 0):∃h cap,v= .slice (some ⟨h,0,none⟩) n cap:=by
 rcases d.2 with⟨j,_⟩|⟨c,i,k,b,_⟩
 ·exact absurd j b
 exact⟨c,i,b⟩
theorem H7 (l:List UInt8)(s:ByteArray):(l.map fun b=>(b.toNat:Int)).foldl (fun r n=>r.push (UInt8.ofNat n.toNat)) s=⟨(s.data.toList++l).toArray⟩:=by
 induction l generalizing s with
 |nil=>cases s;simp
 |cons b t ih=>
  rw[List.map_cons,List.foldl_cons,ih];congr 1
  simp[ByteArray.push]
theorem ui {P:Program}(w:World)(src dst e:TypeId)(i:P.underlying src=some (.slice e))(k:P.underlying e=some (.int .u8))(hd:P.underlying dst=some .string)(a:Addr)(cap:Nat)(l:List UInt8)
 (h:∀j u,(cb l)[j]?=some u->w.cell? (a.add j)=some u):(convert src dst (.slice (some a) l.length cap)).run P w= .ok (.string ⟨l.toArray⟩) w:=by
 rw[Zl w src dst e (some a) l.length cap i k hd];have d:cb l=(l.map fun b=>(b.toNat:Int)).map (Value.int .u8):=by simp[cb]
 have c:=run_loadCells_list (P:=P) (w:=w) a (cb l) h;rw[aO,d]at c;rw[run_bytesToString w a l.length cap _ c,H7];simp
theorem sD {P:Program}{src dst e:TypeId}(b:P.underlying src=some (.slice e))(c:P.underlying e=some (.int .u8))(hd:P.underlying dst=some .string)
 (d:w.ownsRow base e 1 (.slice (some (h,0)) l.length cap) l.length (cb l)):(convert src dst (.slice (some (h,0)) l.length cap)).run P w= .ok (.string ⟨l.toArray⟩) w:=
 ui w src dst e b c hd _ cap l (d.cells rfl)
theorem _root_.Go.RowKit.Below.agn (b:B<=w.heap.size)(h:Below B a w)(o:Obj):Below B a (w.alloc o):=h.alloc b o
theorem _root_.Go.RowKit.Below.bF (h:Below B a w)(n:Nat):Below B a (w.drewN n):=⟨h.os,h.tape,h.output,h.size,h.block⟩
theorem _root_.Go.World.ownsRow.bF {e:TypeId}{size:Nat}(h:w.ownsRow base e size v n xs)(k:Nat):(w.drewN k).ownsRow base e size v n xs:=h
theorem sE (b:g<w.heap.size)(h:w.cell? (g,i)=some v)(d c e:Obj):(((w.alloc d).alloc c).alloc e).cell? (g,i)=some v:=by
 rw[zI _ _ _ (by simp;omega),zI _ _ _ (by simp;omega),zI _ _ _ (by simpa using b)];exact h
theorem CL (e:g<w.heap.size)(h:w.frozen? (g,i)=false)(c b d:Obj):(((w.alloc c).alloc b).alloc d).frozen? (g,i)=false:=by
 rw[(((((ae.refl [] w).alloc c).alloc b).alloc d)).frozen e (by simp)];exact h
theorem nN {a b:ByteArray}(h:b=a):Ending.returned a= .returned b:=by rw[h]
def strOf :Value->Nat
 | .string y=>y.size
 |_=>0
@[simp] theorem S6 (y:ByteArray):strOf y=y.size:=rfl
theorem aV {a b:Bool}(h:b=a):Ending.returned a= .returned b:=by rw[h]
theorem lD {k:IntKind}{a b:Int}(h:a=b):Ending.returned (.int k a)= .returned (.int k b):=by rw[h]
class fV (B:Nat) (w w':World):Prop where
 out:Below B w w'
 le:B<=w'.heap.size
instance fV.refl (w:World):fV w.heap.size w w:=⟨zm _ _,zd _⟩
instance fV.alloc {B:Nat}{w w':World} [h:fV B w w'](o:Obj):fV B w (w'.alloc o):=⟨h.out.alloc h.le o,zG h.le (by simp)⟩
instance fV.drew {B:Nat}{w w':World} [h:fV B w w']:fV B w w'.drew:=⟨h.out.drew,h.le⟩
instance fV.drewN {B:Nat}{w w':World} [h:fV B w w'](n:Nat):fV B w (w'.drewN n):=⟨h.out.bF n,h.le⟩
theorem bO  [h:fV B w w']:Below B w w':=h.out
theorem blm (b:B<=w.heap.size) [h:fV w.heap.size w w']:Below B w w':=h.out.mono b
theorem _root_.Go.RowKit.Below.up {b:World}(h:Below w.heap.size w b) [g:fV b.heap.size b w']:Below w.heap.size w w':=h.trans (g.out.mono h.size)
theorem _root_.Go.RowKit.Below.up' {b:World}(h:Below B w b)(c:B<=b.heap.size) [g:fV b.heap.size b w']:Below B w w':=h.trans (g.out.mono c)
class LY (g:Nat) (L:List Nat):Prop where
 out:g∈L
instance LY.here (g:Nat)(L:List Nat):LY g (g::L):=⟨by simp⟩
instance LY.there {g:Nat}{L:List Nat} [h:LY g L](k:Nat):LY g (k::L):=⟨by simp[h.out]⟩
class dI (L:List Nat) (a w:World):Prop where
 out:ae L a w
instance dI.refl (L:List Nat)(w:World):dI L w w:=⟨ae.refl L w⟩
instance dI.alloc {L:List Nat}{a w:World} [h:dI L a w](o:Obj):dI L a (w.alloc o):=⟨h.out.alloc o⟩
instance dI.drew {L:List Nat}{a w:World} [h:dI L a w]:dI L a w.drew:=⟨h.out.drew⟩
instance dI.drewN {L:List Nat}{a w:World} [h:dI L a w](n:Nat):dI L a (w.drewN n):=⟨h.out.drewN n⟩
instance dI.put {L:List Nat}{a w:World}{g:Nat} [h:dI L a w] [m:LY g L](i:Nat)(n:Option Nat)(u:Value):dI L a (w.setCell ⟨g,i,n⟩ u):=⟨h.out.setCell (.inl m.out) u⟩
instance dI.am8 {L:List Nat}{a w:World} [h:dI L a w](i:Nat)(n:Option Nat)(u:Value):dI L a (w.setCell ⟨a.heap.size,i,n⟩ u):=⟨h.out.setCell (.inr (zd _)) u⟩
instance dI.am9 {L:List Nat}{a w:World} [h:dI L a w](i:Nat)(n:Option Nat)(u:Value):dI L a (w.setCell ⟨a.heap.size+1,i,n⟩ u):=⟨h.out.setCell (.inr (by simp)) u⟩
instance dI.am' {L:List Nat}{a w:World} [h:dI L a w](i:Nat)(n:Option Nat)(u:Value):dI L a (w.setCell ⟨a.heap.size+1+1,i,n⟩ u):=⟨h.out.setCell (.inr (by simp;omega)) u⟩
theorem CM  [h:dI L a w]:ae L a w:=h.out
theorem ae.up (h:ae L a w) [g:dI L w w']:ae L a w':=h.trans g.out
def ub (n:Int):UInt8:=UInt8.ofNat n.toNat
theorem bn (n:Nat)(h:n<256):(ub n).toNat=n:=by
 simp[ub];omega
theorem ED {P:Program}{src dst e:TypeId}(i:P.underlying src=some (.slice e))(k:P.underlying e=some (.int .u8))(hd:P.underlying dst=some .string)(w:World)(xs:List Int)(cap:Nat):
 (convert src dst (.slice (some (w.heap.size,0)) xs.length cap)).run P (w.alloc (.cells (xs.map (Value.int .u8)).toArray e))= .ok (.string ⟨(xs.map ub).toArray⟩) (w.alloc (.cells (xs.map (Value.int .u8)).toArray e)):=by
 rw[Zl _ src dst e _ xs.length cap i k hd];have c:=run_loadCells_list (P:=P) (w:=w.alloc (.cells (xs.map (Value.int .u8)).toArray e)) (w.heap.size,0) (xs.map (Value.int .u8)) (by
  intro j v d;have:=ZP (yM w (.cells (xs.map (Value.int .u8)).toArray e)) j v (by simpa using d);exact this)
 rw[List.length_map]at c;rw[run_bytesToString _ _ _ cap xs c];have h:∀(l:List Int) (s:ByteArray),l.foldl (fun r n=>r.push (UInt8.ofNat n.toNat)) s=⟨(s.data.toList++l.map ub).toArray⟩:=by
  intro l;induction l with
  |nil=>intro s;cases s;simp
  |cons b t ih=>
   intro s;rw[List.foldl_cons,ih];congr 1
   simp[ByteArray.push,ub]
 rw[h];simp
section
variable {P:Program} {src dst e:TypeId} (hs:P.underlying src=some (.slice e)) (he:P.underlying e=some (.int .u8)) (hd:P.underlying dst=some .string)
include hs he hd
theorem OR (w:World)(a:Int):(convert src dst (.slice (some (w.heap.size,0)) 1 1)).run P (w.alloc (.cells #[.int .u8 a] e))= .ok (.string ⟨#[ub a]⟩) (w.alloc (.cells #[.int .u8 a] e)):=ED hs he hd w [a] 1
end
structure Kept (E:TypeId)(base:Nat)(w w':World):Prop where
 below:Below base w w'
 other:∀(k:Nat) (o:Obj),w.heap[k]?=some o->(∀cs fr,o≠Obj.cells cs E fr)->w'.heap[k]?=some o
theorem Kept.refl (E:TypeId)(base:Nat)(w:World):Kept E base w w:=⟨zm _ _,fun _ _ h _=>h⟩
theorem Kept.trans {b c:World}(h:Kept E base a b)(k:Kept E base b c):Kept E base a c:=
 ⟨h.below.trans k.below,fun i o hi d=>k.other i o (h.other i o hi d) d⟩
theorem Kept.ai {b:World}(h:Below B a b)(d:a.heap.size<=B)(c:base<=a.heap.size):Kept E base a b:=
 ⟨h.mono (by omega),fun i o hi _=>(h.block i (by
  have:=(yd.1 hi).1;omega)).trans hi⟩
theorem Kept.alloc {E:TypeId}{base:Nat}{a w:World}(h:Kept E base a w)(b:base<=w.heap.size)(o:Obj):Kept E base a (w.alloc o):=
 h.trans (Kept.ai ((zm w.heap.size w).alloc (zd _) o) (zd _) b)
theorem Kept.drew (h:Kept E base a w):Kept E base a w.drew:=⟨h.below.drew,h.other⟩
theorem Kept.size (h:Kept E base a w):a.heap.size<=w.heap.size:=h.below.size
theorem Kept.mono {b:Nat}(h:Kept E base a w)(c:b<=base):Kept E b a w:=⟨h.below.mono c,h.other⟩
def bP (w:World)(base:Nat)(E:TypeId)(v:Value)(l:List UInt8):Prop:=
 ∃A cap,v= .slice A l.length cap/\l.length<=cap/\cap<=9223372036854775807/\
  ((A=none/\cap=0)\/∃g cur fr,A=some ⟨g,0,none⟩/\base<=g/\w.heap[g]?=some (.cells cur E fr)/\cur.size=cap/\cur.toList.take l.length=cb l/\(fr.2=0\/cap<=fr.1))
theorem bP.nil (w:World)(base:Nat)(E:TypeId):bP w base E nS []:=⟨none,0,rfl,by simp,by simp,.inl ⟨rfl,rfl⟩⟩
theorem bP.form (h:bP w base E v l):∃A cap,v= .slice A l.length cap/\l.length<=cap/\cap<=9223372036854775807:=by
 obtain⟨A,cap,c,b,d,_⟩:=h;exact⟨A,cap,c,b,d⟩
theorem bP.of_heap (h:bP w base E v l)(d:∀k,base<=k->k<w.heap.size->w'.heap[k]?=w.heap[k]?):bP w' base E v l:=by
 obtain⟨A,cap,e,c,i,b⟩:=h;refine⟨A,cap,e,c,i, ?_⟩;rcases b with b|⟨g,cur,fr,hA,hg,hh,r⟩
 ·exact .inl b
 exact .inr ⟨g,cur,fr,hA,hg,(d g hg (yd.1 hh).1).trans hh,r⟩
theorem bP.below (h:bP w base E v l)(b:Below w.heap.size w w'):bP w' base E v l:=h.of_heap fun k _ c=>b.block k c
theorem bP.alloc {w:World}{base:Nat}{E:TypeId}{v:Value}{l:List UInt8}(h:bP w base E v l)(o:Obj):bP (w.alloc o) base E v l:=h.below ((zm _ _).alloc (zd _) o)
theorem bP.drew (h:bP w base E v l):bP w.drew base E v l:=h
theorem bP.mono {c:Nat}(h:bP w base E v l)(j:c<=base):bP w c E v l:=by
 obtain⟨A,cap,e,d,i,b⟩:=h;refine⟨A,cap,e,d,i, ?_⟩;rcases b with b|⟨g,cur,fr,hA,hg,r⟩
 ·exact .inl b
 exact .inr ⟨g,cur,fr,hA,by omega,r⟩
theorem bP.only (h:bP w base E v l)(i:ae L w w')(k:∀g,g∈L->g<base\/∃d t b,w.heap[g]?=some (.cells d t b)/\t≠E):bP w' base E v l:=by
 obtain⟨A,cap,m,e,n,c⟩:=h;refine⟨A,cap,m,e,n, ?_⟩;rcases c with c|⟨g,cur,b,hA,hg,hh,r⟩
 ·exact .inl c
 refine .inr ⟨g,cur,b,hA,hg,(i.block g (yd.1 hh).1 fun j=> ?_).trans hh,r⟩;rcases k g j with h5|⟨d,t,fr',h5,h6⟩
 ·omega
 rw[hh]at h5;injection h5 with h5;injection h5 with _ h7;exact h6 h7.symm
theorem bP.own (h:w.ownsRow base E 1 v l.length (cb l)):bP w base E v l:=by
 obtain⟨p,b⟩:=h;rcases b with⟨b,m⟩|⟨g,cap,c,o,n,d,e,j,k,i⟩
 ·refine⟨none,0,by rw[b,m],by omega,by simp,.inl ⟨rfl,rfl⟩⟩
 exact⟨some (g,0),cap,o,e,by simpa[maxLen]using j,.inr ⟨g,c,(0,0),rfl,n,d,by simpa using k,by simpa using i,.inl rfl⟩⟩
theorem dJ {d:Array Value}{b:Nat×Nat}(e:w.heap[g]?=some (.cells d E b))(c:b.2=0\/i<b.1):w.frozen? (g,i)=false:=by
 obtain⟨h,hi⟩:=b;simp[World.frozen?,e];simp at c;omega
theorem bP.cells (h:bP w base E (.slice A l.length cap) l):∀a,A=some a->∀j u,(cb l)[j]?=some u->w.cell? (a.add j)=some u:=by
 obtain⟨r,s,m,o,y,d⟩:=h;injection m with c _ hc;subst c;subst hc;intro a b j u hu;rcases d with⟨d,_⟩|⟨g,q,B,c,z,e,x,k,p⟩
 ·rw[d]at b;cases b
 rw[c]at b;injection b with b;subst b;have n:((g,0):Addr).add j=⟨g,j,none⟩:=by unfold Addr.add;split<;>simp_all
 have i:j<l.length:=by have:=(y7.1 hu).1;rwa [aO]at this
 rw[n];simp only[World.cell?,e];rw[<-k,yr i]at hu;simpa using hu
theorem bP.str {P:Program}{src dst e:TypeId}(d:P.underlying src=some (.slice e))(i:P.underlying e=some (.int .u8))(hd:P.underlying dst=some .string)
 (h:bP w base E (.slice A l.length cap) l):(convert src dst (.slice A l.length cap)).run P w= .ok (.string ⟨l.toArray⟩) w:=by
 cases A with
 |none=>
  obtain⟨o,q,k,m,r,c⟩:=h;injection k with b _ hc;subst b;subst hc;rcases c with⟨_,c⟩|⟨g,n,p,b,_⟩
  ·subst c;have j:l= []:=zo (by omega);subst j;rw[Zl w src dst e none _ 0 d i hd];rfl
  cases b
 |some a=>exact ui w src dst e d i hd a cap l (h.cells a rfl)
theorem bP.len (h:bP w base E (.slice A n cap) l):n=l.length/\n<=cap/\cap<=9223372036854775807:=by
 obtain⟨e,i,c,b,d,_⟩:=h;injection c with hA hn hc;subst hc;subst hn;exact⟨rfl,b,d⟩
theorem bP.H' {P:Program}{src dst e:TypeId}(b:P.underlying src=some (.slice e))(d:P.underlying e=some (.int .u8))(hd:P.underlying dst=some .string)
 (h:bP w base E (.slice A n cap) l):(convert src dst (.slice A n cap)).run P w= .ok (.string ⟨l.toArray⟩) w:=by
 obtain⟨c,_⟩:=h.len;subst c;exact h.str b d hd
theorem bP.conv (w:World)(base:Nat)(E:TypeId)(s:ByteArray)(b:base<=w.heap.size)(d:s.size<=9223372036854775807):bP (Lib.bytesWorld w E s) base E (.slice (some (w.heap.size,0)) s.size (grownCap w s.size 0 E)) s.data.toList:=by
 have e:=grownCap_ge w s.size 0 E;have c:=Zo w s.size 0 E (by simpa[maxLen]using d);have hz:(Lib.bytesCells w E s).size=grownCap w s.size 0 E:=by simp[Lib.bytesCells];omega
 refine⟨_,_,by rw[aa],by rw[aa];exact e,by simpa[maxLen]using c,.inr ⟨w.heap.size,Lib.bytesCells w E s,_,rfl,b,Lib.bytesWorld_at_new w E s,hz, ?_,.inr (by rw[hz];exact zd _)⟩⟩;simp[Lib.bytesCells,cb]
theorem jd {o:Nat}{b:Array Value}{c:Nat×Nat}(v:Value)(h:w.heap[g]?=some (.cells b E c)):(w.setCell (g,o) v).heap[g]?=some (.cells (b.setIfInBounds o v) E c):=by
 simp[World.setCell,ZC,h]
theorem fJ {i:Nat×Nat}:∀(c:List Value) (o:Nat) (w:World) (b:Array Value),w.heap[g]?=some (.cells b E i)->o+c.length<=b.size->
 ∃d,(w.setCells g o c).heap[g]?=some (.cells d E i)/\d.size=b.size/\d.toList.take (o+c.length)=b.toList.take o++c
 | [],o,w,b,h,_=>⟨b,h,rfl,by simp⟩
 |v::c,o,w,b,h,hl=>by
  simp only[zz]at hl;obtain⟨d,k,j,l⟩:=fJ c (o+1) (w.setCell (g,o) v) (b.setIfInBounds o v) (jd v h) (by simp;omega);refine⟨d,k,by simpa using j, ?_⟩;rw[zz,show o+(c.length+1)=o+1+c.length from by omega,l];have e:(b.setIfInBounds o v).toList.take (o+1)=b.toList.take o++ [v]:=by
   rw[Z1,yn (by simp;omega),List.getElem_set_self,List.take_set_of_le (zd _)]
  rw[e,zC];rfl
theorem fK (w:World)(g o:Nat)(b:List Value):(w.setCells g o b).heap.size=w.heap.size:=by
 induction b generalizing w o with
 |nil=>rfl
 |cons v b ih=>rw[World.setCells,ih];simp[World.setCell]
theorem iy (w:World)(g o:Nat)(b:List Value):(w.setCells g o b).tape=w.tape:=by
 induction b generalizing w o with
 |nil=>rfl
 |cons v b ih=>rw[World.setCells,ih];rfl
theorem ow {o:Nat}{e:Array Value}{l:Nat×Nat}(h:w.heap[g]?=some (.cells e E l))(n:base<=g)(c:List Value):Kept E base w (w.setCells g o c):=by
 have d:∀k,k≠g->(w.setCells g o c).heap[k]?=w.heap[k]?:=by
  intro k b;by_cases j:k<w.heap.size
  ·exact Ze w g o c j b
  rw[xq (by rw[fK];omega),xq (by omega)]
 refine⟨⟨Z3 w g o c,iy w g o c,Zz w g o c,by rw[fK];exact zd _,fun k b=>d k (by omega)⟩,fun k m b i=> ?_⟩;rw[d k (by rintro rfl;rw[h]at b;injection b with b;exact i _ _ b.symm)];exact b
theorem bP.at_ (h:bP w base E (.slice (some (g,0)) n cap) l)(d:k<l.length):(w,g,k,Value.int .u8 (l.getD k 0).toNat)/\w.frozen? (g,k)=false/\base<=g/\g<w.heap.size:=by
 obtain⟨s,x,o,q,z,e⟩:=h;injection o with b hn hc;subst b;subst hc;subst hn;rcases e with⟨e,_⟩|⟨u,r,A,b,p,c,y,m,j⟩
 ·cases e
 injection b with b;injection b with b;subst b;refine⟨?_,dJ c (by rcases j with h|h;exact .inl h;exact .inr (by omega)),p,(yd.1 c).1⟩;have i:(cb l)[k]?=some (.int .u8 (l.getD k 0).toNat):=by rw[EC,zA d,zw,zA d];rfl
 rw[<-m,yr d]at i;simp only[World.cell?,c];simpa using i
theorem bP.set (h:bP w base E (.slice (some (g,0)) n cap) l)(z:k<l.length)(b:UInt8):bP (w.setCell (g,k) (.int .u8 b.toNat)) base E (.slice (some (g,0)) n cap) (l.set k b):=by
 obtain⟨x,A,p,e,q,d⟩:=h;injection p with c hn hc;subst c;subst hc;subst hn;rcases d with⟨d,_⟩|⟨y,u,s,c,r,j,o,m,i⟩
 ·cases d
 injection c with c;injection c with c;subst c;refine⟨_,cap,by rw[Zn],by rw[Zn];exact e,q,.inr ⟨g,_,s,rfl,r,jd _ j,by simpa using o, ?_,i⟩⟩;rw[Zn,Z1,List.take_set,m];simp[cb,List.map_set]
theorem Kept.store {c:Array Value}{e:Nat×Nat}(h:Kept E base a w)(d:w.heap[g]?=some (.cells c E e))(b:base<=g)(v:Value):Kept E base a (w.setCell (g,k) v):=
 h.trans (ow (o:=k) d b [v])
theorem bP.block (h:bP w base E (.slice (some (g,0)) n cap) l):∃c d,w.heap[g]?=some (.cells c E d)/\base<=g:=by
 obtain⟨p,s,j,m,x,e⟩:=h;injection j with b _ hc;subst b;rcases e with⟨e,_⟩|⟨q,c,d,b,k,i,u,r,o⟩
 ·cases e
 injection b with b;injection b with b;subst b;exact⟨c,d,i,k⟩
theorem u9 (n:Nat):(madeCells (Value.int .u8 0).cells (n*1)).toList=cb (List.replicate n 0):=by
 have b:(Value.int .u8 0).cells= #[.int .u8 0]:=rfl;rw[b,xG];apply List.ext_getElem
 ·simp[madeCells,cb]
 intro i c d;simp[madeCells,cb,Nat.mod_one]
theorem bP.append {P:Program}(h:bP w base E v l)(t e ty:TypeId)(i:TypeInfo)(s:P.underlying t=some (.slice E))(hi:P.info? E=some i)(hz:i.zero=some (.int .u8 0))(k:i.size=1)(K:i.bytes=1)
 (c:Value) (m:List UInt8) (O:Src P 1 e c m.length (cb m) w) (J:base<=w.heap.size) (Z:l.length+m.length<=140737488355328):
 ∃G w',(Builtin.append_ #[t,e] ty #[v,c]).run P w= .ok G w'/\bP w' base E G (l++m)/\Kept E base w w':=by
 obtain⟨A,cap,rfl,W,I,F⟩:=h;have z:Src P i.size e c m.length (cb m) w:=by rw[k];exact O
 by_cases D:l.length+m.length<=cap
 ·rcases F with⟨b,r⟩|⟨g,o,C,b,q,d,B,y,n⟩
  ·subst b;subst r;have u:l= []:=zo (by omega);have M:m= []:=zo (by omega);subst u;subst M;exact⟨_,w,ZB w t e ty E i s hi none 0 0 (zd _) c z,bP.nil w base E,Kept.refl E base w⟩
  subst b;have p:=run_append_room_src (P:=P) w t e ty E i s hi g 0 l.length cap c m.length (cb m) z D
   (by
    intro j x;rw[aO]at x;have:0+l.length*i.size+j<o.size:=by rw[k,B];omega
    simp only[World.cell?,d];rw[Zi this];rfl)
   (by
    intro j x;rw[aO]at x;exact dJ d (by rw[k];rcases n with h|h;exact .inl h;exact .inr (by omega)))
  rw[k,xG,zJ]at p;obtain⟨U,R,Y,H⟩:=fJ (cb m) l.length w o d (by rw[aO];omega);refine⟨_,_,p,⟨_,cap,by rw[zk],by rw[zk];exact D,I,.inr ⟨g,U,C,rfl,q,R,by omega, ?_,n⟩⟩,ow d q _⟩;rw[zk,eG];rw[aO,y]at H;exact H
 have L:(Builtin.firstCells i.size l.length (.slice A l.length cap)).run P w.drew= .ok (cb l).toArray w.drew:=by
  rcases F with⟨b,r⟩|⟨g,o,C,b,q,d,B,y,n⟩
  ·subst b;subst r;have u:l= []:=zo (by omega);subst u;exact run_firstCells_none w.drew i.size 0 0 0
  have X:=bP.cells (w:=w) (base:=base) (E:=E) (A:=A) (cap:=cap) (l:=l) ⟨A,cap,rfl,W,I,.inr ⟨g,o,C,b,q,d,B,y,n⟩⟩ (g,0) b;subst b;exact run_firstCells_some w.drew i.size l.length _ l.length cap (cb l) (by rw[aO,k,xG]) X
 have N:Builtin.nextslicecap (l.length+m.length) cap*i.bytes<=281474976710656:=by
  rw[K];exact growslice_fits (by omega) (by omega)
 have p:=run_append_grow_src (P:=P) w t e ty E i (.int .u8 0) s hi hz A l.length cap (cb l) L c m.length (cb m) z (by omega) (by omega) N;have S:=grownCap_ge w (l.length+m.length) cap E;have g2:=Zo w (l.length+m.length) cap E (by simp[maxLen];omega);refine⟨_,_,p,⟨_,_,by rw[zk],by rw[zk];exact S,by simpa[maxLen]using g2,.inr ⟨w.heap.size,_,(0,0),rfl,J,yM w.drew _, ?_, ?_,.inl rfl⟩⟩,((Kept.refl E base w).drew.alloc (by simpa using J) _)⟩
 ·simp only[Array.size_append,Zx,zk,aO,size_zeroCells];have:(Value.int .u8 0).cells.size=1:=rfl;rw[this];omega
 rw[Array.toList_append,zk,zV (by simp[aO]),eG];exact zx (by simp[aO])
theorem Kept.J' (h:w.grownBy w' none)(c:base<=w.heap.size):Kept E base w w':=
 ⟨⟨h.os,h.tape,h.output,h.size,fun k b=>h.block k (by omega) (by simp)⟩,fun k o b _=>(h.block k (yd.1 b).1 (by simp)).trans b⟩
theorem aP {P:Program}{rest:List Oper}{a:Act}(y:o.guard=none)(s x:Operand)(t e:TypeId)
 (n:o.op= .call {callee:= .builtin .append,args:= #[s,x],argTypes:= #[t,e]}) (base:Nat) (E:TypeId) (i:TypeInfo) (q:P.underlying t=some (.slice E)) (hi:P.info? E=some i) (hz:i.zero=some (.int .u8 0)) (B:i.size=1) (r:i.bytes=1)
   (F:a.eval s=v) (h:bP w base E v l) (b:Value) (m:List UInt8) (hx:a.eval x=b) (A:Src P 1 e b m.length (cb m) w) (G:base<=w.heap.size) (D:l.length+m.length<=140737488355328)
 (z:∀(d:Option Addr) (k c:Nat) w',bP w' base E (.slice d k c) (l++m)->Kept E base w w'->wpList P ops Q rest (a.put o.dst (.slice d k c)) w'):wpList P ops Q (o::rest) a w:=by
 refine Ye y fun K C=> ?_
 obtain⟨I,w',p,j,u⟩:=h.append (P:=P) t e o.type i q hi hz B r b m A G D;obtain⟨d,c,H,_⟩:=j.form;unfold Oper.wp;simp[execOp,n,resolve,invoke,builtin,F,hx,p,Result.andThen];subst H;exact C _ _ (z _ _ _ w' j u)
theorem j6 {P:Program}{d e:TypeId}(h:P.underlying d=some (.slice e))(w:World)(E:TypeId)(b:Array Value)(m:List UInt8)(c:Nat)(i:b.toList=cb m):Src P 1 d (.slice (some (w.heap.size,0)) m.length c) m.length (cb m) (w.alloc (.cells b E)):=
 Src.ofSlice _ h _ _ _ _ (by rw[aO,xG]) (fun j u hu=>ZP (yM w (.cells b E)) j u (by rw[<-i]at hu;simpa using hu)) (uZ m)
theorem iz {P:Program}{b:TypeId}(c:P.underlying b=some .string)(w:World)(s:ByteArray):Src P 1 b s s.data.toList.length (cb s.data.toList) w:=by
 have:=Src.ofString (P:=P) w c s;rw[aa];exact this
theorem Ka {P:Program}{e i:TypeId}(d:P.underlying e=some (.slice i)){m:List UInt8}(h:bP w base E v m):Src P 1 e v m.length (cb m) w:=by
 obtain⟨A,cap,rfl,l,q⟩:=h.form;cases A with
 |none=>
  obtain⟨o,p,k,_,_,c⟩:=h;injection k with b _ hc;subst b;subst hc;rcases c with⟨_,c⟩|⟨g,n,r,b,_⟩
  ·subst c;have j:m= []:=zo (by omega);subst j;exact Src.ofNil w d 0
  cases b
 |some ad=>exact Src.ofSlice w d ad _ _ _ (by rw[aO,xG]) (h.cells ad rfl) (uZ m)
theorem oZ {a:Int}(h:a=x)(hx:x<256):(#[Value.int .u8 a]:Array Value).toList=cb [ub x]:=by
 subst h;simp[cb,bn x hx]
theorem OS {a b:Int}{y:Nat}(h:a=x)(hx:x<256)(d:b=y)(c:y<256):(#[Value.int .u8 a,.int .u8 b]:Array Value).toList=cb [ub x,ub y]:=by
 subst h;subst d;simp[cb,bn x hx,bn y c]
theorem uj {P:Program}{d e:TypeId}(h:P.underlying d=some (.slice e))(w:World)(E:TypeId)(b:Array Value)(m:List UInt8)(c g:Nat)(i:g=w.heap.size)(j:b.toList=cb m):Src P 1 d (.slice (some (g,0)) m.length c) m.length (cb m) (w.alloc (.cells b E)):=by
 subst i;exact j6 h w E b m c j
theorem bP.cy (h:bP w base E v l):∃A n cap,v= .slice A n cap/\Hid (n=l.length)/\n<=cap/\cap<=9223372036854775807:=by
 obtain⟨A,cap,c,b,d⟩:=h.form;exact⟨A,_,cap,c,za rfl,b,d⟩
theorem ag.kept {b:Array Value}(h:ag w g t b)(d:Kept E base w w')(i:t≠E):ag w' g t b:=d.other g _ h (by
 intro c f e;injection e with _ e2;exact i e2)
theorem ag.ah {b:Array Value}(h:ag w g t b)(c:Below B w w')(d:g<B):ag w' g t b:=(c.block g d).trans h
theorem bp {a b c:Value}(h:ag w g t #[a,b,c]):(w,g,0,a)/\(w,g,1,b)/\(w,g,2,c)/\w.frozen? (g,0)=false/\w.frozen? (g,1)=false/\w.frozen? (g,2)=false:=
 ⟨h.cell 0,h.cell 1,h.cell 2,h.frozen 0,h.frozen 1,h.frozen 2⟩
structure lE (w w':World)(v v':Value):Prop where
 grown:w.grownBy w' v.ownBlock
 own:v'.ownBlock=v.ownBlock\/∃g,v'.ownBlock=some g/\w.heap.size<=g
theorem lE.refl (w:World)(v:Value):lE w w v v:=⟨World.grownBy.refl _ _,.inl rfl⟩
theorem lE.size {v':Value}(h:lE w w' v v'):w.heap.size<=w'.heap.size:=h.grown.size
theorem lE.trans {b c:World}{i l:Value}(h:lE a b v i)(k:lE b c i l):lE a c v l:=by
 refine⟨h.grown.andThen k.grown fun j d=> ?_, ?_⟩
 ·rcases h.own with e|⟨g,e,hg⟩
  ·exact .inr (by rw[<-e,d])
  rw[e]at d;injection d with d;exact .inl (by omega)
 rcases k.own with e|⟨g,e,hg⟩
 ·rcases h.own with e2|⟨g2,e2,py⟩
  ·exact .inl (e.trans e2)
  exact .inr ⟨g2,e.trans e2,py⟩
 exact .inr ⟨g,e,by have:=h.size;omega⟩
theorem cR {b:World}(h:Below a.heap.size a b):a.grownBy b none:=⟨h.os,h.tape,h.output,h.size,fun k c _=>h.block k c⟩
theorem iH {b:World}(h:a.grownBy b none)(r:Option Nat):a.grownBy b r:=⟨h.os,h.tape,h.output,h.size,fun k c _=>h.block k c (by simp)⟩
theorem lE.ahead {b c:World}(h:Below a.heap.size a b)(k:lE b c v d):lE a c v d:=(show lE a b v v from⟨iH (cR h) _,.inl rfl⟩).trans k
theorem lE.behind {b c:World}(h:lE a b v d)(k:Below b.heap.size b c):lE a c v d:=h.trans (show lE b c d d from⟨iH (cR k) _,.inl rfl⟩)
theorem lE.below {b c:World}(h:Below B a b)(k:lE b c v d)(e:B<=b.heap.size)(i:∀g,v.ownBlock=some g->B<=g):Below B a c:=h.grown k.grown e i
theorem lE.block {b:World}{c:Value}(h:lE a b v c)(d:k<a.heap.size)(i:v.ownBlock≠some k):b.heap[k]?=a.heap[k]?:=h.grown.block k d (fun e=>i e.symm)
theorem bP.ge (h:bP w base E v l):∀g,v.ownBlock=some g->base<=g/\g<w.heap.size/\∃b d,w.heap[g]?=some (.cells b E d):=by
 obtain⟨A,cap,rfl,n,o,m⟩:=h;intro g i;rcases m with⟨c,_⟩|⟨k,b,d,c,j,e,_⟩
 ·subst c;cases i
 subst c;have:k=g:=by simpa[Value.ownBlock]using i
 subst this;exact⟨j,yJ e,b,d,e⟩
theorem bP.cx {i:Array Value}{j:Nat×Nat}(h:bP w base E v l)(c:w.heap[g]?=some (.cells i t j))(d:t≠E):v.ownBlock≠some g:=by
 intro e;obtain⟨_,_,k,m,b⟩:=h.ge g e;rw[c]at b;injection b with b;injection b with _ b;exact d b
theorem bP.ah (h:bP w base E v l)(d:∀k,k<w.heap.size->v.ownBlock=some k->w'.heap[k]?=w.heap[k]?):bP w' base E v l:=by
 obtain⟨A,cap,rfl,c,e,b⟩:=h;refine⟨A,cap,rfl,c,e, ?_⟩;rcases b with b|⟨g,cur,fr,hA,hg,hh,r⟩
 ·exact .inl b
 exact .inr ⟨g,cur,fr,hA,hg,(d g (yJ hh) (by subst hA;rfl)).trans hh,r⟩
theorem ag.Sr {b:Array Value}(h:ag w g t b)(c:lE w w' v d)(e:v.ownBlock≠some g):ag w' g t b:=(c.block h.lt e).trans h
theorem bP.CN {P:Program}(h:bP w base E v l)(t d ty:TypeId)(i:TypeInfo)(u:P.underlying t=some (.slice E))(hi:P.info? E=some i)(hz:i.zero=some (.int .u8 0))(n:i.size=1)(L:i.bytes=1)
 (c:Value) (m:List UInt8) (R:Src P 1 d c m.length (cb m) w) (Z:base<=w.heap.size) (aa:l.length+m.length<=140737488355328):
 ∃y w',(Builtin.append_ #[t,d] ty #[v,c]).run P w= .ok y w'/\bP w' base E y (l++m)/\lE w w' v y:=by
 obtain⟨A,cap,rfl,uB,K,I⟩:=h;have C:Src P i.size d c m.length (cb m) w:=by rw[n];exact R
 by_cases H:l.length+m.length<=cap
 ·rcases I with⟨b,s⟩|⟨g,q,G,b,F,o,D,B,p⟩
  ·subst b;subst s;have x:l= []:=zo (by omega);have N:m= []:=zo (by omega);subst x;subst N;exact⟨_,w,ZB w t d ty E i u hi none 0 0 (zd _) c C,bP.nil w base E,lE.refl _ _⟩
  subst b;have r:=run_append_room_src (P:=P) w t d ty E i u hi g 0 l.length cap c m.length (cb m) C H
   (by
    intro j z;rw[aO]at z;have:0+l.length*i.size+j<q.size:=by rw[n,D];omega
    simp only[World.cell?,o];rw[Zi this];rfl)
   (by
    intro j z;rw[aO]at z;exact dJ o (by rw[n];rcases p with h|h;exact .inl h;exact .inr (by omega)))
  rw[n,xG,zJ]at r;obtain⟨Y,U,c2,J⟩:=fJ (cb m) l.length w q o (by rw[aO];omega);refine⟨_,_,r,⟨_,cap,by rw[zk],by rw[zk];exact H,K,.inr ⟨g,Y,G,rfl,F,U,by omega, ?_,p⟩⟩,⟨Z3 _ _ _ _,iy _ _ _ _,Zz _ _ _ _,by rw[fK];exact zd _,fun k X S=>Ze w g l.length (cb m) X (fun e=>S (by subst e;rfl))⟩,.inl rfl⟩;rw[zk,eG];rw[aO,B]at J;exact J
 have M:(Builtin.firstCells i.size l.length (.slice A l.length cap)).run P w.drew= .ok (cb l).toArray w.drew:=by
  rcases I with⟨b,s⟩|⟨g,q,G,b,F,o,D,B,p⟩
  ·subst b;subst s;have x:l= []:=zo (by omega);subst x;exact run_firstCells_none w.drew i.size 0 0 0
  have hc:=bP.cells (w:=w) (base:=base) (E:=E) (A:=A) (cap:=cap) (l:=l) ⟨A,cap,rfl,uB,K,.inr ⟨g,q,G,b,F,o,D,B,p⟩⟩ (g,0) b;subst b;exact run_firstCells_some w.drew i.size l.length _ l.length cap (cb l) (by rw[aO,n,xG]) hc
 have O:Builtin.nextslicecap (l.length+m.length) cap*i.bytes<=281474976710656:=by
  rw[L];exact growslice_fits (by omega) (by omega)
 have r:=run_append_grow_src (P:=P) w t d ty E i (.int .u8 0) u hi hz A l.length cap (cb l) M c m.length (cb m) C (by omega) (by omega) O;have W:=grownCap_ge w (l.length+m.length) cap E;have g2:=Zo w (l.length+m.length) cap E (by simp[maxLen];omega);refine⟨_,_,r,⟨_,_,by rw[zk],by rw[zk];exact W,by simpa[maxLen]using g2,.inr ⟨w.heap.size,_,(0,0),rfl,Z,yM w.drew _, ?_, ?_,.inl rfl⟩⟩,iH (cR ((zm w.heap.size w).drew.alloc (by simp) _)) _,.inr ⟨w.heap.size,rfl,zd _⟩⟩
 ·simp only[Array.size_append,Zx,zk,aO,size_zeroCells];have:(Value.int .u8 0).cells.size=1:=rfl;rw[this];omega
 rw[Array.toList_append,zk,zV (by simp[aO]),eG];exact zx (by simp[aO])
theorem mM {P:Program}{a:Act}{K:Act->World->Prop}(s x:Operand)(t j:TypeId)
 (n:o.op= .call {callee:= .builtin .append,args:= #[s,x],argTypes:= #[t,j]}) (base:Nat) (E:TypeId) (i:TypeInfo) (q:P.underlying t=some (.slice E)) (hi:P.info? E=some i) (hz:i.zero=some (.int .u8 0)) (A:i.size=1) (r:i.bytes=1)
   (C:a.eval s=v) (h:bP w base E v l) (d:Value) (m:List UInt8) (hx:a.eval x=d) (z:Src P 1 j d m.length (cb m) w) (D:base<=w.heap.size) (B:l.length+m.length<=140737488355328)
 (y:∀(c:Option Addr) (e b:Nat) w',bP w' base E (.slice c e b) (l++m)->lE w w' v (.slice c e b)->K (a.put o.dst (.slice c e b)) w'):Oper.wp P o a w K Q:=by
 obtain⟨G,w',p,k,u⟩:=h.CN (P:=P) t j o.type i q hi hz A r d m z D B;obtain⟨c,b,F,_⟩:=k.form;unfold Oper.wp;simp[execOp,n,resolve,invoke,builtin,C,hx,p,Result.andThen];subst F;exact y _ _ _ w' k u
theorem ch {P:Program}{rest:List Oper}{a:Act}(r:o.guard=none)(s x:Operand)(t j:TypeId)
 (k:o.op= .call {callee:= .builtin .append,args:= #[s,x],argTypes:= #[t,j]}) (base:Nat) (E:TypeId) (i:TypeInfo) (n:P.underlying t=some (.slice E)) (hi:P.info? E=some i) (hz:i.zero=some (.int .u8 0)) (A:i.size=1) (p:i.bytes=1)
   (D:a.eval s=v) (h:bP w base E v l) (e:Value) (m:List UInt8) (hx:a.eval x=e) (z:Src P 1 j e m.length (cb m) w) (F:base<=w.heap.size) (C:l.length+m.length<=140737488355328)
 (y:∀(c:Option Addr) (d b:Nat) w',bP w' base E (.slice c d b) (l++m)->lE w w' v (.slice c d b)->wpList P ops Q rest (a.put o.dst (.slice c d b)) w'):wpList P ops Q (o::rest) a w:=
 Ye r fun _ B=>mM s x t j k base E i n hi hz A p D h e m hx z F C fun c d b w' u q=>B _ _ (y c d b w' u q)
theorem rB {P:Program}{a:Act}{K:Act->World->Prop}{k:Prop}(r:o.guard=none)(s x:Operand)(t j:TypeId)
 (n:o.op= .call {callee:= .builtin .append,args:= #[s,x],argTypes:= #[t,j]}) (base:Nat) (E:TypeId) (i:TypeInfo) (p:P.underlying t=some (.slice E)) (hi:P.info? E=some i) (hz:i.zero=some (.int .u8 0)) (A:i.size=1) (q:i.bytes=1)
   (C:a.eval s=v) (h:bP w base E v l) (b:Value) (m:List UInt8) (hx:a.eval x=b) (z:Src P 1 j b m.length (cb m) w) (D:base<=w.heap.size) (B:l.length+m.length<=140737488355328)
 (u:∀(d:Option Addr) (e c:Nat) w',bP w' base E (.slice d e c) (l++m)->lE w w' v (.slice d e c)->K (a.put o.dst (.slice d e c)) w'):
 if Region.wanted o (yielded ops a.tmps)=true then Oper.wp P o a w K Q else k:=by
 have y:Region.wanted o (yielded ops a.tmps)=true:=by simp[Region.wanted,r]
 rw[zj y];exact mM s x t j n base E i p hi hz A q C h b m hx z D B u
theorem o4 {b:UInt8}(c:s.data.toList[k]?=some b):∃h:k<s.size,s[k]=b:=by
 have h:k<s.size:=by
  have:=(y7.1 c).1;simpa using this
 refine⟨h, ?_⟩;rw[iu s k h]at c;injection c
theorem kL {size f b c:Nat}{out d:List UInt8}(h:k<s.size)(e:s[k].toNat=b)(i:bZ s size k b out=(0,c,d)):gP s size (f+1) k out=gP s size f c d:=by
 rw[gP,Yg h,e,i,zj rfl]
def aR (n:Nat):List UInt8:=if n<128 then [ub n]else ub (n%128+128:Nat)::aR (n/128)
termination_by n
theorem ie (h:n<128):aR n= [ub n]:=by rw[aR,zj h]
theorem jq (h:¬n<128):aR n=ub (n%128+128:Nat)::aR (n/128):=by rw[aR,zi h]
theorem EF (n:Nat):1<=(aR n).length:=by
 by_cases h:n<128
 ·simp[ie h]
 simp[jq h]
theorem bw (k:Nat):∀n,n<128^k->1<=k->(aR n).length<=k:=by
 induction k with
 |zero=>intro n _ h;omega
 |succ k ih=>
  intro n b _;by_cases h:n<128
  ·simp[ie h]
  rw[jq h,zz];rcases Zp k with h0|h0
  ·subst h0;simp at b;omega
  have:=ih (n/128) (by rw[Zu]at b;exact xY (by rw[Zv];exact b)) h0;omega
theorem LZ (n:Nat):∀(s:ByteArray) (pre rest:List UInt8) (i m:Nat),s.data.toList=pre++(aR n++rest)->pre.length=i->i<=9->n<2^(64-7*i)->(i=0\/0<n)->
 cd s (10-i) i m=(m+n*2^(7*i),i+(aR n).length,0):=by
 induction n using Nat.strongRecOn with
 |ind n ih=>
  intro s pre rest i m d j hi p u;rw[show 10-i=(9-i)+1 from by omega];have o:i=9->n<=1:=by
   intro h;subst h;have:(2:Nat)^(64-7*9)=2:=by decide
   omega
  by_cases h:n<128
  ·rw[ie h]at d⊢;obtain⟨g,e⟩:=o4 (s:=s) (k:=i) (b:=ub n) (by rw[d,yj (by omega),j];simp);have c:s[i].toNat=n:=by rw[e,bn n (by omega)]
   rw[jz s _ i m g (by rw[c];omega) (by rw[c];exact h),c,Nat.mod_eq_of_lt h];simp
  rw[jq h]at d⊢;obtain⟨g,e⟩:=o4 (s:=s) (k:=i) (b:=ub (n%128+128:Nat)) (by rw[d,yj (by omega),j];simp);have c:s[i].toNat=n%128+128:=by rw[e,bn _ (by omega)]
  rw[jA s _ i m g (by rw[c];omega) (by rw[c];omega),c];have w:7*i+7<=64:=by
   rcases xp i 9 with h9|h9
   ·omega
   have:=o (by omega);omega
  have q:2^(64-7*i)=2^(64-7*(i+1))*128:=by
   rw[show 64-7*i=(64-7*(i+1))+7 from by omega,xX]
  have hd:n/128<2^(64-7*(i+1)):=xY (by rw[Zv,<-q];exact p);have:=ih (n/128) (by omega) s (pre++ [ub (n%128+128:Nat)]) rest (i+1) (m+(n%128+128)%128*2^(7*i)) (by rw[d];simp) (by simp;omega) (by omega) hd (Or.inr (by omega));rw[show 9-i=10-(i+1)from by omega,this];have l:2^(7*(i+1))=128*2^(7*i):=by rw[show 7*(i+1)=7+7*i from by omega,xX]
  have r:m+(n%128+128)%128*2^(7*i)+n/128*2^(7*(i+1))=m+n*2^(7*i):=by
   rw[l,show(n%128+128)%128=n%128 from by omega,<-Nat.mul_assoc,yg,<-Nat.add_mul,show n%128+n/128*128=n from by omega]
  rw[r];exact ZZ rfl (ZZ (by simp only[zz];omega) rfl)
theorem j7 (n:Nat)(s:ByteArray)(rest:List UInt8)(b:s.data.toList=aR n++rest)(c:n<18446744073709551616):ay s=(n,(aR n).length,0):=by
 have:=LZ n s [] rest 0 0 (by simpa using b) rfl (by omega) (by simpa using c) (Or.inl rfl);simpa[ay]using this
def mt (L:List UInt8)(j i:Nat):Nat->Nat
 |0=>0
 |f+1=>if i<L.length/\L[j]?=L[i]? then mt L (j+1) (i+1) f+1 else 0
def Ia (L:List UInt8)(i:Nat):Nat->Option Nat
 |0=>none
 |j+1=>if 4<=mt L j i 64 then some j else Ia L i j
def ig (l:List UInt8):List UInt8:=
 if l.length=0 then []else if l.length<=60 then ub (4*(l.length-1):Nat)::l
 else if l.length<=256 then 240::ub (l.length-1:Nat)::l
 else 244::ub ((l.length-1)%256:Nat)::ub ((l.length-1)/256:Nat)::l
def kM (n d:Nat):List UInt8:=
 if n<=11/\d<2048 then [ub (1+4*(n-4)+32*(d/256):Nat),ub (d%256:Nat)]
 else [ub (2+4*(n-1):Nat),ub (d%256:Nat),ub (d/256:Nat)]
def pk (L:List UInt8):Nat->Nat->Nat->List UInt8
 |0,_,_=> []
 |f+1,p,i=>if i<L.length then
  (match Ia L i i with
  |none=>pk L f p (i+1)
  |some j=>ig ((L.take i).drop p)++(kM (mt L j i 64) (i-j)++pk L f (i+mt L j i 64) (i+mt L j i 64)))
  else ig (L.drop p)
def pack (L:List UInt8):List UInt8:=aR L.length++pk L (L.length+1) 0 0
theorem By (L:List UInt8)(f:Nat):∀j i,mt L j i f<=f/\(i<=L.length->i+mt L j i f<=L.length):=by
 induction f with
 |zero=>intro j i;simp[mt]
 |succ f ih=>
  intro j i;have:=ih (j+1) (i+1);unfold mt;split<;>omega
theorem EG (L:List UInt8)(f:Nat):∀j i n,n<mt L j i f->L[j+n]?=L[i+n]?:=by
 induction f with
 |zero=>intro j i n h;simp[mt]at h
 |succ f ih=>
  intro j i n h;unfold mt at h;split at h
  ·rename_i b
   cases n with
   |zero=>exact b.2
   |succ n=>
    have:=ih (j+1) (i+1) n (by omega);rw[show j+(n+1)=j+1+n from by omega,show i+(n+1)=i+1+n from by omega];exact this
  omega
theorem pW (L:List UInt8)(i:Nat):∀k j,Ia L i k=some j->j<k/\4<=mt L j i 64:=by
 intro k;induction k with
 |zero=>intro j h;simp[Ia]at h
 |succ k ih=>
  intro j h;unfold Ia at h;split at h
  ·rename_i b
   injection h with h;subst h;exact⟨by omega,b⟩
  have:=ih j h;omega
theorem WE (L:List UInt8)(j i:Nat)(d:j<i)(hi:i<=L.length):∀n,n<=mt L j i 64->ue (L.take i) (i-j) n=L.take (i+n):=by
 intro n;induction n with
 |zero=>intro _;rfl
 |succ n ih=>
  intro e;have h:=(By L 64 j i).2 hi;rw[Ep,ih (by omega)];have c:(L.take (i+n)).length=i+n:=by rw[zU];omega
  have b:=EG L 64 j i n (by omega);rw[c,show i+n-(i-j)=j+n from by omega,show i+(n+1)=(i+n)+1 from by omega,yn (by omega)];congr 1
  rw[zw,yr (by omega),b,zA (by omega)];rfl
theorem j8 (l:List UInt8)(h:l.length<=65536):l.length<=(ig l).length/\(ig l).length<=l.length+(if l.length=0 then 0 else if l.length<=60 then 1 else if l.length<=256 then 2 else 3):=by
 unfold ig;split
 ·rename_i b;simp[b]
 split
 ·simp
 split<;>simp<;>omega
theorem sF (n d:Nat):2<=(kM n d).length/\(kM n d).length<=3:=by
 unfold kM;split<;>simp
theorem L3 (L:List UInt8)(k:L.length<=65536)(f:Nat):∀p i,p<=i->i<=L.length->32*(pk L f p i).length<=33*(L.length-p)+96:=by
 induction f with
 |zero=>intro p i _ _;simp[pk]
 |succ f ih=>
  intro p i m hi;unfold pk;split
  ·cases hf:Ia L i i with
   |none=>exact ih p (i+1) (by omega) (by omega)
   |some j=>
    obtain⟨h,n⟩:=pW L i i j hf;have d:=(By L 64 j i).2 hi;have l:=ih (i+mt L j i 64) (i+mt L j i 64) (zd _) d;have e:=sF (mt L j i 64) (i-j);have c:((L.take i).drop p).length=i-p:=by simp;omega
    have b:=j8 ((L.take i).drop p) (by omega);rw[c]at b;simp only[zk];split at b
    ·omega
    split at b
    ·omega
    split at b<;>omega
  have c:(L.drop p).length=L.length-p:=by simp
  have b:=j8 (L.drop p) (by omega);rw[c]at b;split at b
  ·omega
  split at b
  ·omega
  split at b<;>omega
theorem sG (L:List UInt8)(b:L.length<=65536):(pack L).length<=L.length+L.length/32+8:=by
 have d:=L3 L b (L.length+1) 0 0 (zd _) (yb _);have c:=bw 3 L.length (by omega) (by omega);unfold pack;rw[zk];omega
theorem EH (B:ByteArray)(size:Nat)(pre l rest out:List UInt8)(c:B.data.toList=pre++(ig l++rest))(q:l.length<=65536)(r:out.length+l.length<=size):
 ∃n,n<=(ig l).length/\∀F,gP B size (F+n) pre.length out=gP B size F (pre.length+(ig l).length) (out++l):=by
 by_cases o:l.length=0
 ·have:l= []:=zo o;subst this;exact⟨0,by simp,fun F=>by simp[ig]⟩
 refine⟨1, ?_,fun F=> ?_⟩
 ·have:=j8 l q;omega
 have hz:B.size=pre.length+(ig l).length+rest.length:=by rw[<-aa,c];simp[yg]
 have hcut:∀a b,(B.extract (pre.length+a) (pre.length+b)).data.toList=((ig l++rest).take b).drop a:=by
  intro a b;rw[aq,c,List.take_append,List.drop_append,show pre.length+b-pre.length=b from by omega,zK (by rw[zU];omega),yo,zU,show pre.length+a-min (pre.length+b) pre.length=a from by omega]
 unfold ig at c hz hcut⊢;rw[zi o]at c hz hcut⊢;by_cases p:l.length<=60
 ·rw[zj p]at c hz hcut⊢;obtain⟨g,e⟩:=o4 (s:=B) (k:=pre.length) (b:=ub (4*(l.length-1):Nat)) (by rw[c];simp);have h:B[pre.length].toNat=4*(l.length-1):=by rw[e,bn _ (by omega)]
  have d:bg (4*(l.length-1))=1:=by unfold bg;rw[zj (by omega),zi (by omega)]
  have i:∀x,cK (4*(l.length-1)) x=l.length:=by intro x;unfold cK;rw[zj (by omega),zi (by omega)];omega
  simp only[zz]at hz⊢;refine kL g h ?_;unfold bZ;rw[i,d,zi (by omega),zi (by omega),zj (by omega),zi (by omega),show pre.length+1+l.length=pre.length+(1+l.length)from by omega,hcut];simp only[zW,Zw 1,zR,ya,zL,zV (zd l.length),ZE]
 rw[zi p]at c hz hcut⊢;by_cases m:l.length<=256
 ·rw[zj m]at c hz hcut⊢;obtain⟨g,e⟩:=o4 (s:=B) (k:=pre.length) (b:=240) (by rw[c];simp);have h:B[pre.length].toNat=240:=by rw[e];rfl
  have d:bg 240=2:=by decide
  simp only[zz]at hz⊢;have j:iD B pre.length 240=l.length-1:=by
   unfold iD;rw[d,hcut];simp only[zW,zR,ya,zL,yv];simp only[da,bn (l.length-1) (by omega)];omega
  have i:cK 240 (l.length-1)=l.length:=by unfold cK;rw[zj (by omega),zj (by omega)];omega
  refine kL g h ?_;unfold bZ;rw[j,i,d,zi (by omega),zi (by omega),zj (by omega),zi (by omega),show pre.length+2+l.length=pre.length+(l.length+2)from by omega,hcut];simp only[zW,zR,ya,zL,zV (zd l.length),ZE]
 rw[zi m]at c hz hcut⊢;obtain⟨g,e⟩:=o4 (s:=B) (k:=pre.length) (b:=244) (by rw[c];simp);have h:B[pre.length].toNat=244:=by rw[e];rfl
 have d:bg 244=3:=by decide
 simp only[zz]at hz⊢;have j:iD B pre.length 244=l.length-1:=by
  unfold iD;rw[d,hcut];simp only[zW,zR,ya,zL,yv];simp only[da,bn ((l.length-1)%256) (by omega),bn ((l.length-1)/256) (by omega)];omega
 have i:cK 244 (l.length-1)=l.length:=by unfold cK;rw[zj (by omega),zj (by omega)];omega
 refine kL g h ?_;unfold bZ;rw[j,i,d,zi (by omega),zi (by omega),zj (by omega),zi (by omega),show pre.length+3+l.length=pre.length+(l.length+3)from by omega,hcut];simp only[zW,zR,ya,zL,zV (zd l.length),ZE]
theorem OT (B:ByteArray)(size n d:Nat)(pre rest out:List UInt8)(c:B.data.toList=pre++(kM n d++rest))(w:4<=n)(p:n<=64)(hd:1<=d)(u:d<=out.length)(r:d<65536)(q:out.length+n<=size)(F:Nat):
 gP B size (F+1) pre.length out=gP B size F (pre.length+(kM n d).length) (ue out d n):=by
 have hz:B.size=pre.length+(kM n d).length+rest.length:=by rw[<-aa,c];simp[yg]
 have hcut:∀a b,(B.extract (pre.length+a) (pre.length+b)).data.toList=((kM n d++rest).take b).drop a:=by
  intro a b;rw[aq,c,List.take_append,List.drop_append,show pre.length+b-pre.length=b from by omega,zK (by rw[zU];omega),yo,zU,show pre.length+a-min (pre.length+b) pre.length=a from by omega]
 unfold kM at c hz hcut⊢;by_cases o:n<=11/\d<2048
 ·rw[zj o]at c hz hcut⊢;obtain⟨g,e⟩:=o4 (s:=B) (k:=pre.length) (b:=ub (1+4*(n-4)+32*(d/256):Nat)) (by rw[c];simp);have j:B[pre.length].toNat=1+4*(n-4)+32*(d/256):=by rw[e,bn _ (by omega)]
  have h:bg (1+4*(n-4)+32*(d/256))=2:=by unfold bg;rw[zi (by omega),zj (by omega)]
  simp only[zz,zO]at hz⊢;have l:iD B pre.length (1+4*(n-4)+32*(d/256))=d%256:=by
   unfold iD;rw[h,hcut];simp only[zW,zR,ya,zL,yv];simp only[da,bn (d%256) (by omega)];omega
  have m:∀x,cK (1+4*(n-4)+32*(d/256)) x=n:=by intro x;unfold cK;rw[zi (by omega),zj (by omega)];omega
  have i:j4 (1+4*(n-4)+32*(d/256)) (d%256)=d:=by unfold j4;rw[zj (by omega)];omega
  refine kL g j ?_;unfold bZ;rw[l,i,m,h,zi (by omega),zi (by omega),zi (by omega)]
 rw[zi o]at c hz hcut⊢;obtain⟨g,e⟩:=o4 (s:=B) (k:=pre.length) (b:=ub (2+4*(n-1):Nat)) (by rw[c];simp);have j:B[pre.length].toNat=2+4*(n-1):=by rw[e,bn _ (by omega)]
 have h:bg (2+4*(n-1))=3:=by unfold bg;rw[zi (by omega),zi (by omega),zj (by omega)]
 simp only[zz,zO]at hz⊢;have l:iD B pre.length (2+4*(n-1))=d:=by
  unfold iD;rw[h,hcut];simp only[zW,zR,ya,zL,yv];simp only[da,bn (d%256) (by omega),bn (d/256) (by omega)];omega
 have m:∀x,cK (2+4*(n-1)) x=n:=by intro x;unfold cK;rw[zi (by omega),zi (by omega)];omega
 have i:j4 (2+4*(n-1)) d=d:=by unfold j4;rw[zi (by omega)]
 refine kL g j ?_;unfold bZ;rw[l,i,m,h,zi (by omega),zi (by omega),zi (by omega)]
theorem S7 (B:ByteArray)(L:List UInt8)(A:L.length<=65536)(f:Nat):∀(p i:Nat) (pre:List UInt8),p<=i->i<=L.length->L.length-i<f->B.data.toList=pre++pk L f p i->
 ∃n,n<=(pk L f p i).length/\∀F,gP B L.length (F+n) pre.length (L.take p)=gP B L.length F B.size L:=by
 induction f with
 |zero=>intro p i pre _ _ h;omega
 |succ f ih=>
  intro p i pre r hi C b;unfold pk at b⊢;by_cases h:i<L.length
  ·rw[zj h]at b⊢;cases hfd:Ia L i i with
   |none=>
    rw[hfd]at b;exact ih p (i+1) pre (by omega) (by omega) (by omega) b
   |some j=>
    rw[hfd]at b;simp only at b⊢;obtain⟨w,s⟩:=pW L i i j hfd;have l:=By L 64 j i;have x:=l.2 hi;have E:((L.take i).drop p).length=i-p:=by simp;omega
    have z:(L.take p).length=p:=by rw[zU];omega
    have q:(L.take i).length=i:=by rw[zU];omega
    have u:L.take p++(L.take i).drop p=L.take i:=by
     have:=zH p (L.take i);rwa [xu,yG r]at this
    obtain⟨n1,e,c⟩:=EH B L.length pre ((L.take i).drop p) _ (L.take p) b (by omega) (by omega);rw[u]at c;have k:B.data.toList=(pre++ig ((L.take i).drop p))++(kM (mt L j i 64) (i-j)++pk L f (i+mt L j i 64) (i+mt L j i 64)):=by rw[b,zC]
    have m:=OT B L.length (mt L j i 64) (i-j) _ _ (L.take i) k s l.1 (by omega) (by omega) (by omega) (by omega);rw[WE L j i w hi _ (zd _),zk]at m;have y:B.data.toList=((pre++ig ((L.take i).drop p))++kM (mt L j i 64) (i-j))++pk L f (i+mt L j i 64) (i+mt L j i 64):=by rw[k,zC _ (kM _ _) _]
    obtain⟨d,D,o⟩:=ih _ _ _ (zd _) x (by omega) y;rw[zk,zk]at o;refine⟨d+1+n1, ?_,fun F=> ?_⟩
    ·have:=sF (mt L j i 64) (i-j);simp only[zk];omega
    rw[show F+(d+1+n1)=(F+d+1)+n1 from by omega,c,m,o]
  rw[zi h]at b⊢;have q:(L.take p).length=p:=by rw[zU];omega
  obtain⟨n1,e,c⟩:=EH B L.length pre (L.drop p) [] (L.take p) (by simpa using b) (by simp;omega) (by simp;omega);refine⟨n1,e,fun F=> ?_⟩;rw[c,zH];congr 1
  rw[<-aa,b,zk]
theorem Bz (s:ByteArray)(L:List UInt8)(c:L.length<=65536)(b:s.data.toList=pack L):aB s=(L.length,(aR L.length).length,0):=by
 unfold pack at b;have h:=j7 L.length s _ b (by omega);unfold aB;rw[h,zj rfl,zi (by simp;omega)]
theorem EI (s:ByteArray)(L:List UInt8)(d:L.length<=65536)(b:s.data.toList=pack L)(most:Int)(k:L.length<=most):a8 s most=(0,L):=by
 have e:=Bz s L d b;unfold a8;rw[e];simp only[Yo,yX,xN];rw[zi (by omega)];unfold pack at b;generalize i:s.extract (aR L.length).length s.size=B;have c:B.data.toList=pk L (L.length+1) 0 0:=by
  rw[<-i,aq,cP,b,yw (zd _),Yd,yo]
 obtain⟨n,j,h⟩:=S7 B L d (L.length+1) 0 0 [] (zd _) (yb _) (by omega) (by simpa using c);unfold iR;have hz:B.size=(pk L (L.length+1) 0 0).length:=by rw[<-aa,c]
 rw[show B.size+1=(B.size-n+1)+n from by omega];have:=h (B.size-n+1);simp only[zO,yv]at this;rw[this];unfold gP;rw[dif_neg (by omega),zi (by omega)]
