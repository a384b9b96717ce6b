/- Words for memory: a block that is known whole ('Blk'), a world that has turned at some blocks alone ('Only'), a slice that reads as a list ('Reads'). Own text; no program in sight. -/
import Derived.Test.YtimoclkoflamkaaGreatDoorKA1
import Derived.Deep.AppendLies
import Derived.Deep.Draws
import Derived.Lib.Hide
import Derived.Lib.AtoiErrMem
import Derived.Deep.Upon
import Derived.Deep.RegionLaw
import Derived.Maps.Range
set_option linter.all false
namespace Go.Proofs.YtimoclkoflamkaaGreatDoor
open Go.RowKit
variable {w a w':World}{base g n B cap k i h x:Nat}{E t d:TypeId}{v:Value}{l:List UInt8}{L M:List Nat}{p:Addr}{xs:List Value}{A:Option Addr}{o:Oper}{Q:Exit->Act->World->Prop}{ops:Array Oper}{row:Option Nat}{s:ByteArray}
def za:=@Lib.hid
def zi:=@Below.refl
def zy:=@World.cell?_of_block
def zz:=@Nat.le_trans
def zF:=@World.cell?_alloc_lt
def zG:=@List.drop_zero
def zK:=@Nat.zero_add
def zL:=@List.drop_eq_nil_of_le
def zM:=@List.length_nil
def zO:=@List.take_succ_cons
def zR:=@Below.heap_setCell
def zV:=@List.drop_succ_cons
def ya:=@Nat.zero_le
def yb:=@Array.getElem?_eq_some_iff
def yk:=@List.getElem?_take_of_lt
def yo:=@List.nil_append
def yp:=@lt_of_block
def yq:=@List.take_zero
def yK:=@heap_alloc_new
def yR:=@List.getElem?_eq_some_iff
def yV:=@not_true_eq_false
def xq:=@Array.getElem?_eq_none
def xw:=@List.take_take
def xH:=@Nat.mul_one
def xI:=@List.mem_map
def xO:=@if_false
def xV:=@List.getElem?_map
def Za:=@Nat.div_lt_of_lt_mul
def Zi:=@World.heap_setCells_other
def Zm:=@Array.getElem?_eq_getElem
def Zp:=@run_convert_bytes_string
def Zr:=@List.length_set
def Zs:=@grownCap_le_maxLen
def Zt:=@Nat.eq_zero_or_pos
def Zv:=@Nat.pow_succ
def Zx:=@Nat.add_comm
def Zy:=@List.size_toArray
def ZC:=@World.output_setCells
def ZI:=@Go.run_append_nothing
def ZJ:=@Array.getElem?_modify
def ZM:=@List.take_length
def ZO:=@Below.heap_alloc
def ZT:=@Prod.ext
def ZZ:=@World.news_of_block
def Ya:=@Array.toList_setIfInBounds
def Yc:=@World.os_setCells
def Yo:=@List.drop_length
def Yq:=@wpList_plain
def YC:=@ne_eq
def YG:=@List.length_map
def af (w:World)(g:Nat)(t:TypeId)(cs:Array Value):Prop:=w.heap[g]?=some (.cells cs t (0,0))
theorem af.lt {b:Array Value}(h:af w g t b):g<w.heap.size:=yp h
theorem af.cell {w:World}{g:Nat}{t:TypeId}{b:Array Value}(h:af w g t b)(i:Nat):w.cell? (g,i)=b[i]?:=by
 unfold af at h;simp[World.cell?,h]
theorem af.frozen {b:Array Value}(h:af w g t b)(i:Nat):w.frozen? (g,i)=false:=by
 unfold af at h;simp[World.frozen?,h]
theorem af.new (w:World)(t:TypeId)(b:Array Value):af (w.alloc (.cells b t)) w.heap.size t b:=yK w _
theorem af.drew {b:Array Value}(h:af w g t b):af w.drew g t b:=h
theorem af.drewN {b:Array Value}(h:af w g t b)(n:Nat):af (w.drewN n) g t b:=h
theorem af.alloc {w:World}{g:Nat}{t:TypeId}{b:Array Value}(h:af w g t b)(o:Obj):af (w.alloc o) g t b:=(ZO w o g h.lt).trans h
theorem af.set {b:Array Value}(h:af w g t b)(i:Nat)(u:Value):af (w.setCell (g,i) u) g t (b.setIfInBounds i u):=by
 unfold af at h⊢;simp[World.setCell,ZJ,h]
theorem af.dI {b:Array Value}(h:af w g t b)(c:g≠p.block)(u:Value):af (w.setCell p u) g t b:=(zR w p u g c).trans h
theorem af.beside {b:Array Value}(c:g≠p.block)(h:af w g t b)(u:Value):af (w.setCell p u) g t b:=h.dI c u
theorem af.store {c b:Array Value}{u:Value}(h:af w g t c)(e:c.setIfInBounds i u=b):af (w.setCell (g,i) u) g t b:=e▸h.set i u
structure ae (L:List Nat)(w w':World):Prop where
 os:w'.os=w.os
 tape:w'.tape=w.tape
 output:w'.output=w.output
 size:w.heap.size<=w'.heap.size
 block:∀k,k<w.heap.size->k∉L->w'.heap[k]?=w.heap[k]?
theorem ae.refl (L:List Nat)(w:World):ae L w w:=⟨rfl,rfl,rfl,ze _,fun _ _ _=>rfl⟩
theorem ae.trans' {b c:World}(h:ae L a b)(k:ae M b c)(j:∀i,i∈M->i∈L\/a.heap.size<=i):ae L a c:=
 ⟨k.os.trans h.os,k.tape.trans h.tape,k.output.trans h.output,zz h.size k.size,fun i hi d=>
  (k.block i (zJ hi h.size) (fun e=>by rcases j i e with h1|h1;exact d h1;omega)).trans (h.block i hi d)⟩
theorem ae.trans {b c:World}(h:ae L a b)(k:ae L b c):ae L a c:=h.trans' k fun _ hi=> .inl hi
theorem ae.mono (h:ae L w w')(c:∀i,i∈L->i∈M):ae M w w':=⟨h.os,h.tape,h.output,h.size,fun k d b=>h.block k d (fun e=>b (c k e))⟩
theorem ae.drew (h:ae L a w):ae L a w.drew:=⟨h.os,h.tape,h.output,h.size,h.block⟩
theorem ae.drewN (h:ae L a w)(n:Nat):ae L a (w.drewN n):=⟨h.os,h.tape,h.output,h.size,h.block⟩
theorem ae.alloc {L:List Nat}{a w:World}(h:ae L a w)(o:Obj):ae L a (w.alloc o):=
 ⟨h.os,h.tape,h.output,zz h.size (by simp),fun k b c=>(ZO w o k (zJ b h.size)).trans (h.block k b c)⟩
theorem ae.setCell (h:ae L a w)(b:p.block∈L\/a.heap.size<=p.block)(u:Value):ae L a (w.setCell p u):=
 ⟨h.os,h.tape,h.output,by simpa[World.setCell]using h.size,fun k d c=>(zR w p u k (by
  rintro rfl;rcases b with b|b
  ·exact c b
  omega)).trans (h.block k d c)⟩
theorem ae.put (b:p.block∈L\/a.heap.size<=p.block)(h:ae L a w)(u:Value):ae L a (w.setCell p u):=h.setCell b u
theorem ae.cn (h:w.grownBy w' row):ae row.toList w w':=
 ⟨h.os,h.tape,h.output,h.size,fun k c b=>h.block k c (fun e=>b (by simp[<-e]))⟩
theorem ae.grown (h:ae L a w)(b:w.grownBy w' row)(c:∀k,row=some k->k∈L\/a.heap.size<=k):ae L a w':=
 h.trans' (ae.cn b) fun i hi=>c i (by simpa using hi)
theorem ae.ai (h:Below B w w')(b:w.heap.size<=B):ae [] w w':=⟨h.os,h.tape,h.output,h.size,fun k c _=>h.block k (by omega)⟩
theorem ae.below (h:ae L w w')(c:B<=w.heap.size)(b:∀i,i∈L->B<=i):Below B w w':=
 ⟨h.os,h.tape,h.output,h.size,fun k d=>h.block k (by omega) (fun hi=>by have:=b k hi;omega)⟩
theorem ae.cell {L:List Nat}{w w':World}(h:ae L w w'){p:Addr}(c:p.block<w.heap.size)(b:p.block∉L):w'.cell? p=w.cell? p:=zy (h.block _ c b)
theorem ae.frozen (h:ae L w w')(c:p.block<w.heap.size)(b:p.block∉L):w'.frozen? p=w.frozen? p:=World.frozen?_of_block (h.block _ c b)
theorem af.only {b:Array Value}(h:af w g t b)(d:ae L w w')(c:g∉L):af w' g t b:=(d.block g h.lt c).trans h
theorem ae.own (h:ae L w w'){e:TypeId}{size:Nat}(i:w.ownsRow base e size v n xs)
 (c:∀g,v.ownBlock=some g->g∉L):w'.ownsRow base e size v n xs:=by
 obtain⟨d,b⟩:=i;refine⟨d, ?_⟩;rcases b with b|⟨g,cap,cur,hv,hg,hh,r⟩
 ·exact Or.inl b
 subst hv;exact Or.inr ⟨g,cap,cur,rfl,hg,(h.block g (yp hh) (c g rfl)).trans hh,r⟩
def cb (l:List UInt8):List Value:=l.map fun b=> .int .u8 b.toNat
theorem aO (l:List UInt8):(cb l).length=l.length:=YG ..
theorem eL (l m:List UInt8):cb (l++m)=cb l++cb m:=YF ..
theorem FT (l:List UInt8)(j:Nat):(cb l)[j]?=(l[j]?).map fun b=> .int .u8 b.toNat:=xV ..
theorem vY (l:List UInt8):∀u∈cb l,u.oneCell'=true:=by
 intro u hu;simp only[cb,xI]at hu;obtain⟨b,_,rfl⟩:=hu;rfl
theorem U4 (l:List UInt8)(k:Nat):cb (l.drop k)=(cb l).drop k:=by simp[cb]
theorem U5 (l:List UInt8)(k:Nat):cb (l.take k)=(cb l).take k:=by simp[cb]
theorem cw {e:TypeId}{size:Nat}{l:Array Value}(k:w.ownsRow base e size (.slice (some (h,0)) n cap) n xs)(c:af w g t l)(d:e≠t):h≠g:=by
 rintro rfl;rcases k.2 with⟨j,_⟩|⟨m,p,o,b,_,i,_⟩
 ·cases j
 injection b with b;injection b with b;injection b with b;subst b;unfold af at c;rw[i]at c;injection c with c;injection c with _ ht;exact d ht
theorem mX {e:TypeId}{size:Nat}(i:w.ownsRow base e size (.slice (some (h,0)) n cap) n xs):n<=cap/\cap<=9223372036854775807/\base<=h/\h<w.heap.size:=by
 rcases i.2 with⟨d,_⟩|⟨m,p,o,b,l,c,j,k,_⟩
 ·cases d
 injection b with b uY FB;injection b with b;injection b with b;subst b;subst FB;exact⟨j,by simpa[maxLen]using k,l,yp c⟩
theorem mY {e:TypeId}{size:Nat}(d:w.ownsRow base e size v n xs)(b:v≠ .slice none 0 0):∃h cap,v= .slice (some ⟨h,0,none⟩) n cap:=by
 rcases d.2 with⟨c,_⟩|⟨i,j,k,b,_⟩
 ·exact absurd c b
 exact⟨i,j,b⟩
theorem Js (l:List UInt8)(s:ByteArray):(l.map fun b=>(b.toNat:Int)).foldl (fun r n=>r.push (UInt8.ofNat n.toNat)) s=⟨(s.data.toList++l).toArray⟩:=by
 induction l generalizing s with
 |nil=>cases s;simp
 |cons b t ih=>
  rw[List.map_cons,List.foldl_cons,ih];congr 1
  simp[ByteArray.push]
theorem vo {P:Program}(w:World)(src dst e:TypeId)(d:P.underlying src=some (.slice e))(i:P.underlying e=some (.int .u8))(hd:P.underlying dst=some .string)(a:Addr)(cap:Nat)(l:List UInt8)
 (h:∀j u,(cb l)[j]?=some u->w.cell? (a.add j)=some u):(convert src dst (.slice (some a) l.length cap)).run P w= .ok (.string ⟨l.toArray⟩) w:=by
 rw[Zp w src dst e (some a) l.length cap d i hd];have k:cb l=(l.map fun b=>(b.toNat:Int)).map (Value.int .u8):=by simp[cb]
 have c:=run_loadCells_list (P:=P) (w:=w) a (cb l) h;rw[aO,k]at c;rw[run_bytesToString w a l.length cap _ c,Js];simp
theorem tA {P:Program}{src dst e:TypeId}(b:P.underlying src=some (.slice e))(c:P.underlying e=some (.int .u8))(hd:P.underlying dst=some .string)
 (d:w.ownsRow base e 1 (.slice (some (h,0)) l.length cap) l.length (cb l)):(convert src dst (.slice (some (h,0)) l.length cap)).run P w= .ok (.string ⟨l.toArray⟩) w:=
 vo w src dst e b c hd _ cap l (d.cells rfl)
theorem _root_.Go.RowKit.Below.aiB (b:B<=w.heap.size)(h:Below B a w)(o:Obj):Below B a (w.alloc o):=h.alloc b o
theorem _root_.Go.RowKit.Below.bI (h:Below B a w)(n:Nat):Below B a (w.drewN n):=⟨h.os,h.tape,h.output,h.size,h.block⟩
theorem _root_.Go.World.ownsRow.bI {e:TypeId}{size:Nat}(h:w.ownsRow base e size v n xs)(k:Nat):(w.drewN k).ownsRow base e size v n xs:=h
theorem tB (b:g<w.heap.size)(h:w.cell? (g,i)=some v)(d c e:Obj):(((w.alloc d).alloc c).alloc e).cell? (g,i)=some v:=by
 rw[zF _ _ _ (by simp;omega),zF _ _ _ (by simp;omega),zF _ _ _ (by simpa using b)];exact h
theorem DO (e:g<w.heap.size)(h:w.frozen? (g,i)=false)(c b d:Obj):(((w.alloc c).alloc b).alloc d).frozen? (g,i)=false:=by
 rw[(((((ae.refl [] w).alloc c).alloc b).alloc d)).frozen e (by simp)];exact h
theorem ot {a b:ByteArray}(h:b=a):Ending.returned a= .returned b:=by rw[h]
def strOf :Value->Nat
 | .string y=>y.size
 |_=>0
@[simp] theorem U6 (y:ByteArray):strOf y=y.size:=rfl
theorem aU {a b:Bool}(h:b=a):Ending.returned a= .returned b:=by rw[h]
theorem lO {k:IntKind}{a b:Int}(h:a=b):Ending.returned (.int k a)= .returned (.int k b):=by rw[h]
class ga (B:Nat) (w w':World):Prop where
 out:Below B w w'
 le:B<=w'.heap.size
instance ga.refl (w:World):ga w.heap.size w w:=⟨zi _ _,ze _⟩
instance ga.alloc {B:Nat}{w w':World} [h:ga B w w'](o:Obj):ga B w (w'.alloc o):=⟨h.out.alloc h.le o,zz h.le (by simp)⟩
instance ga.drew {B:Nat}{w w':World} [h:ga B w w']:ga B w w'.drew:=⟨h.out.drew,h.le⟩
instance ga.drewN {B:Nat}{w w':World} [h:ga B w w'](n:Nat):ga B w (w'.drewN n):=⟨h.out.bI n,h.le⟩
theorem bQ  [h:ga B w w']:Below B w w':=h.out
theorem blm (b:B<=w.heap.size) [h:ga w.heap.size w w']:Below B w w':=h.out.mono b
theorem _root_.Go.RowKit.Below.up {b:World}(h:Below w.heap.size w b) [g:ga b.heap.size b w']:Below w.heap.size w w':=h.trans (g.out.mono h.size)
theorem _root_.Go.RowKit.Below.up' {b:World}(h:Below B w b)(c:B<=b.heap.size) [g:ga b.heap.size b w']:Below B w w':=h.trans (g.out.mono c)
class NT (g:Nat) (L:List Nat):Prop where
 out:g∈L
instance NT.here (g:Nat)(L:List Nat):NT g (g::L):=⟨by simp⟩
instance NT.there {g:Nat}{L:List Nat} [h:NT g L](k:Nat):NT g (k::L):=⟨by simp[h.out]⟩
class dQ (L:List Nat) (a w:World):Prop where
 out:ae L a w
instance dQ.refl (L:List Nat)(w:World):dQ L w w:=⟨ae.refl L w⟩
instance dQ.alloc {L:List Nat}{a w:World} [h:dQ L a w](o:Obj):dQ L a (w.alloc o):=⟨h.out.alloc o⟩
instance dQ.drew {L:List Nat}{a w:World} [h:dQ L a w]:dQ L a w.drew:=⟨h.out.drew⟩
instance dQ.drewN {L:List Nat}{a w:World} [h:dQ L a w](n:Nat):dQ L a (w.drewN n):=⟨h.out.drewN n⟩
instance dQ.put {L:List Nat}{a w:World}{g:Nat} [h:dQ L a w] [m:NT g L](i:Nat)(n:Option Nat)(u:Value):dQ L a (w.setCell ⟨g,i,n⟩ u):=⟨h.out.setCell (.inl m.out) u⟩
instance dQ.apa {L:List Nat}{a w:World} [h:dQ L a w](i:Nat)(n:Option Nat)(u:Value):dQ L a (w.setCell ⟨a.heap.size,i,n⟩ u):=⟨h.out.setCell (.inr (ze _)) u⟩
instance dQ.apb {L:List Nat}{a w:World} [h:dQ L a w](i:Nat)(n:Option Nat)(u:Value):dQ L a (w.setCell ⟨a.heap.size+1,i,n⟩ u):=⟨h.out.setCell (.inr (by simp)) u⟩
instance dQ.apc {L:List Nat}{a w:World} [h:dQ L a w](i:Nat)(n:Option Nat)(u:Value):dQ L a (w.setCell ⟨a.heap.size+1+1,i,n⟩ u):=⟨h.out.setCell (.inr (by simp;omega)) u⟩
theorem DP  [h:dQ L a w]:ae L a w:=h.out
theorem ae.up (h:ae L a w) [g:dQ L w w']:ae L a w':=h.trans g.out
def ub (n:Int):UInt8:=UInt8.ofNat n.toNat
theorem bn (n:Nat)(h:n<256):(ub n).toNat=n:=by
 simp[ub];omega
theorem FU {P:Program}{src dst e:TypeId}(i:P.underlying src=some (.slice e))(k:P.underlying e=some (.int .u8))(hd:P.underlying dst=some .string)(w:World)(xs:List Int)(cap:Nat):
 (convert src dst (.slice (some (w.heap.size,0)) xs.length cap)).run P (w.alloc (.cells (xs.map (Value.int .u8)).toArray e))= .ok (.string ⟨(xs.map ub).toArray⟩) (w.alloc (.cells (xs.map (Value.int .u8)).toArray e)):=by
 rw[Zp _ src dst e _ xs.length cap i k hd];have c:=run_loadCells_list (P:=P) (w:=w.alloc (.cells (xs.map (Value.int .u8)).toArray e)) (w.heap.size,0) (xs.map (Value.int .u8)) (by
  intro j v d;have:=ZZ (yK w (.cells (xs.map (Value.int .u8)).toArray e)) j v (by simpa using d);exact this)
 rw[YG]at c;rw[run_bytesToString _ _ _ cap xs c];have h:∀(l:List Int) (s:ByteArray),l.foldl (fun r n=>r.push (UInt8.ofNat n.toNat)) s=⟨(s.data.toList++l.map ub).toArray⟩:=by
  intro l;induction l with
  |nil=>intro s;cases s;simp
  |cons b t ih=>
   intro s;rw[List.foldl_cons,ih];congr 1
   simp[ByteArray.push,ub]
 rw[h];simp
section
variable {P:Program} {src dst e:TypeId} (hs:P.underlying src=some (.slice e)) (he:P.underlying e=some (.int .u8)) (hd:P.underlying dst=some .string)
include hs he hd
theorem QS (w:World)(a:Int):(convert src dst (.slice (some (w.heap.size,0)) 1 1)).run P (w.alloc (.cells #[.int .u8 a] e))= .ok (.string ⟨#[ub a]⟩) (w.alloc (.cells #[.int .u8 a] e)):=FU hs he hd w [a] 1
end
structure Kept (E:TypeId)(base:Nat)(w w':World):Prop where
 below:Below base w w'
 other:∀(k:Nat) (o:Obj),w.heap[k]?=some o->(∀cs fr,o≠Obj.cells cs E fr)->w'.heap[k]?=some o
theorem Kept.refl (E:TypeId)(base:Nat)(w:World):Kept E base w w:=⟨zi _ _,fun _ _ h _=>h⟩
theorem Kept.trans {b c:World}(h:Kept E base a b)(k:Kept E base b c):Kept E base a c:=
 ⟨h.below.trans k.below,fun i o hi d=>k.other i o (h.other i o hi d) d⟩
theorem Kept.ai {b:World}(h:Below B a b)(c:a.heap.size<=B)(d:base<=a.heap.size):Kept E base a b:=
 ⟨h.mono (by omega),fun i o hi _=>(h.block i (by
  have:=(yb.1 hi).1;omega)).trans hi⟩
theorem Kept.alloc {E:TypeId}{base:Nat}{a w:World}(h:Kept E base a w)(b:base<=w.heap.size)(o:Obj):Kept E base a (w.alloc o):=
 h.trans (Kept.ai ((zi w.heap.size w).alloc (ze _) o) (ze _) b)
theorem Kept.drew (h:Kept E base a w):Kept E base a w.drew:=⟨h.below.drew,h.other⟩
theorem Kept.size (h:Kept E base a w):a.heap.size<=w.heap.size:=h.below.size
theorem Kept.mono {b:Nat}(h:Kept E base a w)(c:b<=base):Kept E b a w:=⟨h.below.mono c,h.other⟩
def bR (w:World)(base:Nat)(E:TypeId)(v:Value)(l:List UInt8):Prop:=
 ∃A cap,v= .slice A l.length cap/\l.length<=cap/\cap<=9223372036854775807/\
  ((A=none/\cap=0)\/∃g cur fr,A=some ⟨g,0,none⟩/\base<=g/\w.heap[g]?=some (.cells cur E fr)/\cur.size=cap/\cur.toList.take l.length=cb l/\(fr.2=0\/cap<=fr.1))
theorem bR.nil (w:World)(base:Nat)(E:TypeId):bR w base E nS []:=⟨none,0,rfl,by simp,by simp,.inl ⟨rfl,rfl⟩⟩
theorem bR.form (h:bR w base E v l):∃A cap,v= .slice A l.length cap/\l.length<=cap/\cap<=9223372036854775807:=by
 obtain⟨A,cap,b,d,c,_⟩:=h;exact⟨A,cap,b,d,c⟩
theorem bR.of_heap (h:bR w base E v l)(c:∀k,base<=k->k<w.heap.size->w'.heap[k]?=w.heap[k]?):bR w' base E v l:=by
 obtain⟨A,cap,e,i,d,b⟩:=h;refine⟨A,cap,e,i,d, ?_⟩;rcases b with b|⟨g,cur,fr,hA,hg,hh,r⟩
 ·exact .inl b
 exact .inr ⟨g,cur,fr,hA,hg,(c g hg (yb.1 hh).1).trans hh,r⟩
theorem bR.below (h:bR w base E v l)(b:Below w.heap.size w w'):bR w' base E v l:=h.of_heap fun k _ c=>b.block k c
theorem bR.alloc {w:World}{base:Nat}{E:TypeId}{v:Value}{l:List UInt8}(h:bR w base E v l)(o:Obj):bR (w.alloc o) base E v l:=h.below ((zi _ _).alloc (ze _) o)
theorem bR.drew (h:bR w base E v l):bR w.drew base E v l:=h
theorem bR.mono {c:Nat}(h:bR w base E v l)(j:c<=base):bR w c E v l:=by
 obtain⟨A,cap,e,i,d,b⟩:=h;refine⟨A,cap,e,i,d, ?_⟩;rcases b with b|⟨g,cur,fr,hA,hg,r⟩
 ·exact .inl b
 exact .inr ⟨g,cur,fr,hA,by omega,r⟩
theorem bR.only (h:bR w base E v l)(j:ae L w w')(m:∀g,g∈L->g<base\/∃d t b,w.heap[g]?=some (.cells d t b)/\t≠E):bR w' base E v l:=by
 obtain⟨A,cap,i,k,e,c⟩:=h;refine⟨A,cap,i,k,e, ?_⟩;rcases c with c|⟨g,cur,b,hA,hg,hh,r⟩
 ·exact .inl c
 refine .inr ⟨g,cur,b,hA,hg,(j.block g (yb.1 hh).1 fun n=> ?_).trans hh,r⟩;rcases m g n with h5|⟨d,t,fr',h5,h6⟩
 ·omega
 rw[hh]at h5;injection h5 with h5;injection h5 with _ h7;exact h6 h7.symm
theorem bR.own (h:w.ownsRow base E 1 v l.length (cb l)):bR w base E v l:=by
 obtain⟨p,b⟩:=h;rcases b with⟨b,c⟩|⟨g,cap,o,d,n,i,j,k,m,e⟩
 ·refine⟨none,0,by rw[b,c],by omega,by simp,.inl ⟨rfl,rfl⟩⟩
 exact⟨some (g,0),cap,d,j,by simpa[maxLen]using k,.inr ⟨g,o,(0,0),rfl,n,i,by simpa using m,by simpa using e,.inl rfl⟩⟩
theorem dR {e:Array Value}{b:Nat×Nat}(c:w.heap[g]?=some (.cells e E b))(d:b.2=0\/i<b.1):w.frozen? (g,i)=false:=by
 obtain⟨h,hi⟩:=b;simp[World.frozen?,c];simp at d;omega
theorem bR.cells (h:bR w base E (.slice A l.length cap) l):∀a,A=some a->∀j u,(cb l)[j]?=some u->w.cell? (a.add j)=some u:=by
 obtain⟨r,B,m,s,o,d⟩:=h;injection m with c _ hc;subst c;subst hc;intro a b j u hu;rcases d with⟨d,_⟩|⟨g,z,p,c,y,k,x,e,q⟩
 ·rw[d]at b;cases b
 rw[c]at b;injection b with b;subst b;have i:((g,0):Addr).add j=⟨g,j,none⟩:=by unfold Addr.add;split<;>simp_all
 have n:j<l.length:=by have:=(yR.1 hu).1;rwa [aO]at this
 rw[i];simp only[World.cell?,k];rw[<-e,yk n]at hu;simpa using hu
theorem bR.str {P:Program}{src dst e:TypeId}(i:P.underlying src=some (.slice e))(d:P.underlying e=some (.int .u8))(hd:P.underlying dst=some .string)
 (h:bR w base E (.slice A l.length cap) l):(convert src dst (.slice A l.length cap)).run P w= .ok (.string ⟨l.toArray⟩) w:=by
 cases A with
 |none=>
  obtain⟨o,r,j,p,m,c⟩:=h;injection j with b _ hc;subst b;subst hc;rcases c with⟨_,c⟩|⟨g,q,n,b,_⟩
  ·subst c;have k:l= []:=zk (by omega);subst k;rw[Zp w src dst e none _ 0 i d hd];rfl
  cases b
 |some a=>exact vo w src dst e i d hd a cap l (h.cells a rfl)
theorem bR.len (h:bR w base E (.slice A n cap) l):n=l.length/\n<=cap/\cap<=9223372036854775807:=by
 obtain⟨e,i,c,d,b,_⟩:=h;injection c with hA hn hc;subst hc;subst hn;exact⟨rfl,d,b⟩
theorem bR.Jt {P:Program}{src dst e:TypeId}(c:P.underlying src=some (.slice e))(d:P.underlying e=some (.int .u8))(hd:P.underlying dst=some .string)
 (h:bR w base E (.slice A n cap) l):(convert src dst (.slice A n cap)).run P w= .ok (.string ⟨l.toArray⟩) w:=by
 obtain⟨b,_⟩:=h.len;subst b;exact h.str c d hd
theorem bR.conv (w:World)(base:Nat)(E:TypeId)(s:ByteArray)(d:base<=w.heap.size)(b:s.size<=9223372036854775807):bR (Lib.bytesWorld w E s) base E (.slice (some (w.heap.size,0)) s.size (grownCap w s.size 0 E)) s.data.toList:=by
 have c:=grownCap_ge w s.size 0 E;have e:=Zs w s.size 0 E (by simpa[maxLen]using b);have hz:(Lib.bytesCells w E s).size=grownCap w s.size 0 E:=by simp[Lib.bytesCells];omega
 refine⟨_,_,by rw[aa],by rw[aa];exact c,by simpa[maxLen]using e,.inr ⟨w.heap.size,Lib.bytesCells w E s,_,rfl,d,Lib.bytesWorld_at_new w E s,hz, ?_,.inr (by rw[hz];exact ze _)⟩⟩;simp[Lib.bytesCells,cb]
theorem jl {o:Nat}{b:Array Value}{c:Nat×Nat}(v:Value)(h:w.heap[g]?=some (.cells b E c)):(w.setCell (g,o) v).heap[g]?=some (.cells (b.setIfInBounds o v) E c):=by
 simp[World.setCell,ZJ,h]
theorem fM {i:Nat×Nat}:∀(c:List Value) (o:Nat) (w:World) (b:Array Value),w.heap[g]?=some (.cells b E i)->o+c.length<=b.size->
 ∃d,(w.setCells g o c).heap[g]?=some (.cells d E i)/\d.size=b.size/\d.toList.take (o+c.length)=b.toList.take o++c
 | [],o,w,b,h,_=>⟨b,h,rfl,by simp⟩
 |v::c,o,w,b,h,hl=>by
  simp only[zx]at hl;obtain⟨d,k,l,j⟩:=fM c (o+1) (w.setCell (g,o) v) (b.setIfInBounds o v) (jl v h) (by simp;omega);refine⟨d,k,by simpa using l, ?_⟩;rw[zx,show o+(c.length+1)=o+1+c.length from by omega,j];have e:(b.setIfInBounds o v).toList.take (o+1)=b.toList.take o++ [v]:=by
   rw[Ya,yn (by simp;omega),List.getElem_set_self,List.take_set_of_le (ze _)]
  rw[e,zB];rfl
theorem fN (w:World)(g o:Nat)(b:List Value):(w.setCells g o b).heap.size=w.heap.size:=by
 induction b generalizing w o with
 |nil=>rfl
 |cons v b ih=>rw[World.setCells,ih];simp[World.setCell]
theorem iD (w:World)(g o:Nat)(b:List Value):(w.setCells g o b).tape=w.tape:=by
 induction b generalizing w o with
 |nil=>rfl
 |cons v b ih=>rw[World.setCells,ih];rfl
theorem oY {o:Nat}{l:Array Value}{h:Nat×Nat}(i:w.heap[g]?=some (.cells l E h))(n:base<=g)(c:List Value):Kept E base w (w.setCells g o c):=by
 have d:∀k,k≠g->(w.setCells g o c).heap[k]?=w.heap[k]?:=by
  intro k b;by_cases j:k<w.heap.size
  ·exact Zi w g o c j b
  rw[xq (by rw[fN];omega),xq (by omega)]
 refine⟨⟨Yc w g o c,iD w g o c,ZC w g o c,by rw[fN];exact ze _,fun k b=>d k (by omega)⟩,fun k m b e=> ?_⟩;rw[d k (by rintro rfl;rw[i]at b;injection b with b;exact e _ _ b.symm)];exact b
theorem bR.at_ (h:bR w base E (.slice (some (g,0)) n cap) l)(c:k<l.length):(w,g,k,Value.int .u8 (l.getD k 0).toNat)/\w.frozen? (g,k)=false/\base<=g/\g<w.heap.size:=by
 obtain⟨s,A,o,u,q,e⟩:=h;injection o with b hn hc;subst b;subst hc;subst hn;rcases e with⟨e,_⟩|⟨y,z,r,b,p,d,x,j,m⟩
 ·cases e
 injection b with b;injection b with b;subst b;refine⟨?_,dR d (by rcases m with h|h;exact .inl h;exact .inr (by omega)),p,(yb.1 d).1⟩;have i:(cb l)[k]?=some (.int .u8 (l.getD k 0).toNat):=by rw[FT,zr c,zu,zr c];rfl
 rw[<-j,yk c]at i;simp only[World.cell?,d];simpa using i
theorem bR.set (h:bR w base E (.slice (some (g,0)) n cap) l)(u:k<l.length)(b:UInt8):bR (w.setCell (g,k) (.int .u8 b.toNat)) base E (.slice (some (g,0)) n cap) (l.set k b):=by
 obtain⟨x,A,p,r,e,d⟩:=h;injection p with c hn hc;subst c;subst hc;subst hn;rcases d with⟨d,_⟩|⟨y,z,m,c,q,o,s,i,j⟩
 ·cases d
 injection c with c;injection c with c;subst c;refine⟨_,cap,by rw[Zr],by rw[Zr];exact r,e,.inr ⟨g,_,m,rfl,q,jl _ o,by simpa using s, ?_,j⟩⟩;rw[Zr,Ya,List.take_set,i];simp[cb,List.map_set]
theorem Kept.store {c:Array Value}{d:Nat×Nat}(h:Kept E base a w)(e:w.heap[g]?=some (.cells c E d))(b:base<=g)(v:Value):Kept E base a (w.setCell (g,k) v):=
 h.trans (oY (o:=k) e b [v])
theorem bR.block (h:bR w base E (.slice (some (g,0)) n cap) l):∃e c,w.heap[g]?=some (.cells e E c)/\base<=g:=by
 obtain⟨q,x,k,r,m,d⟩:=h;injection k with b _ hc;subst b;rcases d with⟨d,_⟩|⟨u,e,c,b,j,i,s,o,p⟩
 ·cases d
 injection b with b;injection b with b;subst b;exact⟨e,c,i,j⟩
theorem vZ (n:Nat):(madeCells (Value.int .u8 0).cells (n*1)).toList=cb (List.replicate n 0):=by
 have b:(Value.int .u8 0).cells= #[.int .u8 0]:=rfl;rw[b,xH];apply List.ext_getElem
 ·simp[madeCells,cb]
 intro i d c;simp[madeCells,cb,Nat.mod_one]
theorem bR.append {P:Program}(h:bR w base E v l)(t e ty:TypeId)(i:TypeInfo)(u:P.underlying t=some (.slice E))(hi:P.info? E=some i)(hz:i.zero=some (.int .u8 0))(k:i.size=1)(O:i.bytes=1)
 (c:Value) (m:List UInt8) (R:Src P 1 e c m.length (cb m) w) (D:base<=w.heap.size) (Y:l.length+m.length<=140737488355328):
 ∃I w',(Builtin.append_ #[t,e] ty #[v,c]).run P w= .ok I w'/\bR w' base E I (l++m)/\Kept E base w w':=by
 obtain⟨A,cap,rfl,K,J,G⟩:=h;have r:Src P i.size e c m.length (cb m) w:=by rw[k];exact R
 by_cases H:l.length+m.length<=cap
 ·rcases G with⟨b,y⟩|⟨g,o,z,b,q,d,x,s,n⟩
  ·subst b;subst y;have C:l= []:=zk (by omega);have U:m= []:=zk (by omega);subst C;subst U;exact⟨_,w,ZI w t e ty E i u hi none 0 0 (ze _) c r,bR.nil w base E,Kept.refl E base w⟩
  subst b;have p:=run_append_room_src (P:=P) w t e ty E i u hi g 0 l.length cap c m.length (cb m) r H
   (by
    intro j B;rw[aO]at B;have:0+l.length*i.size+j<o.size:=by rw[k,x];omega
    simp only[World.cell?,d];rw[Zm this];rfl)
   (by
    intro j B;rw[aO]at B;exact dR d (by rw[k];rcases n with h|h;exact .inl h;exact .inr (by omega)))
  rw[k,xH,zK]at p;obtain⟨N,X,Z,F⟩:=fM (cb m) l.length w o d (by rw[aO];omega);refine⟨_,_,p,⟨_,cap,by rw[zh],by rw[zh];exact H,J,.inr ⟨g,N,z,rfl,q,X,by omega, ?_,n⟩⟩,oY d q _⟩;rw[zh,eL];rw[aO,s]at F;exact F
 have W:(Builtin.firstCells i.size l.length (.slice A l.length cap)).run P w.drew= .ok (cb l).toArray w.drew:=by
  rcases G with⟨b,y⟩|⟨g,o,z,b,q,d,x,s,n⟩
  ·subst b;subst y;have C:l= []:=zk (by omega);subst C;exact run_firstCells_none w.drew i.size 0 0 0
  have S:=bR.cells (w:=w) (base:=base) (E:=E) (A:=A) (cap:=cap) (l:=l) ⟨A,cap,rfl,K,J,.inr ⟨g,o,z,b,q,d,x,s,n⟩⟩ (g,0) b;subst b;exact run_firstCells_some w.drew i.size l.length _ l.length cap (cb l) (by rw[aO,k,xH]) S
 have M:Builtin.nextslicecap (l.length+m.length) cap*i.bytes<=281474976710656:=by
  rw[O];exact growslice_fits (by omega) (by omega)
 have p:=run_append_grow_src (P:=P) w t e ty E i (.int .u8 0) u hi hz A l.length cap (cb l) W c m.length (cb m) r (by omega) (by omega) M;have L:=grownCap_ge w (l.length+m.length) cap E;have g2:=Zs w (l.length+m.length) cap E (by simp[maxLen];omega);refine⟨_,_,p,⟨_,_,by rw[zh],by rw[zh];exact L,by simpa[maxLen]using g2,.inr ⟨w.heap.size,_,(0,0),rfl,D,yK w.drew _, ?_, ?_,.inl rfl⟩⟩,((Kept.refl E base w).drew.alloc (by simpa using D) _)⟩
 ·simp only[Array.size_append,Zy,zh,aO,size_zeroCells];have:(Value.int .u8 0).cells.size=1:=rfl;rw[this];omega
 rw[Array.toList_append,zh,zS (by simp[aO]),eL];exact zw (by simp[aO])
theorem Kept.LC (h:w.grownBy w' none)(c:base<=w.heap.size):Kept E base w w':=
 ⟨⟨h.os,h.tape,h.output,h.size,fun k b=>h.block k (by omega) (by simp)⟩,fun k o b _=>(h.block k (yb.1 b).1 (by simp)).trans b⟩
theorem aP {P:Program}{rest:List Oper}{a:Act}(z:o.guard=none)(s x:Operand)(t e:TypeId)
 (C:o.op= .call {callee:= .builtin .append,args:= #[s,x],argTypes:= #[t,e]}) (base:Nat) (E:TypeId) (i:TypeInfo) (B:P.underlying t=some (.slice E)) (hi:P.info? E=some i) (hz:i.zero=some (.int .u8 0)) (n:i.size=1) (A:i.bytes=1)
   (u:a.eval s=v) (h:bR w base E v l) (b:Value) (m:List UInt8) (hx:a.eval x=b) (D:Src P 1 e b m.length (cb m) w) (r:base<=w.heap.size) (G:l.length+m.length<=140737488355328)
 (H:∀(c:Option Addr) (j d:Nat) w',bR w' base E (.slice c j d) (l++m)->Kept E base w w'->wpList P ops Q rest (a.put o.dst (.slice c j d)) w'):wpList P ops Q (o::rest) a w:=by
 refine Yq z fun K F=> ?_
 obtain⟨I,w',y,k,p⟩:=h.append (P:=P) t e o.type i B hi hz n A b m D r G;obtain⟨c,d,q,_⟩:=k.form;unfold Oper.wp;simp[execOp,C,resolve,invoke,builtin,u,hx,y,Result.andThen];subst q;exact F _ _ (H _ _ _ w' k p)
theorem kh {P:Program}{i:TypeId}(h:P.underlying d=some (.slice i))(w:World)(E:TypeId)(b:Array Value)(m:List UInt8)(c:Nat)(e:b.toList=cb m):Src P 1 d (.slice (some (w.heap.size,0)) m.length c) m.length (cb m) (w.alloc (.cells b E)):=
 Src.ofSlice _ h _ _ _ _ (by rw[aO,xH]) (fun j u hu=>ZZ (yK w (.cells b E)) j u (by rw[<-e]at hu;simpa using hu)) (vY m)
theorem iE {P:Program}{b:TypeId}(c:P.underlying b=some .string)(w:World)(s:ByteArray):Src P 1 b s s.data.toList.length (cb s.data.toList) w:=by
 have:=Src.ofString (P:=P) w c s;rw[aa];exact this
theorem LD {P:Program}{e j:TypeId}(d:P.underlying e=some (.slice j)){m:List UInt8}(h:bR w base E v m):Src P 1 e v m.length (cb m) w:=by
 obtain⟨A,cap,rfl,p,l⟩:=h.form;cases A with
 |none=>
  obtain⟨o,r,i,_,_,c⟩:=h;injection i with b _ hc;subst b;subst hc;rcases c with⟨_,c⟩|⟨g,q,n,b,_⟩
  ·subst c;have k:m= []:=zk (by omega);subst k;exact Src.ofNil w d 0
  cases b
 |some ad=>exact Src.ofSlice w d ad _ _ _ (by rw[aO,xH]) (h.cells ad rfl) (vY m)
theorem pE {a:Int}(h:a=x)(hx:x<256):(#[Value.int .u8 a]:Array Value).toList=cb [ub x]:=by
 subst h;simp[cb,bn x hx]
theorem QT {a b:Int}{y:Nat}(h:a=x)(hx:x<256)(c:b=y)(d:y<256):(#[Value.int .u8 a,.int .u8 b]:Array Value).toList=cb [ub x,ub y]:=by
 subst h;subst c;simp[cb,bn x hx,bn y d]
theorem vq {P:Program}{i:TypeId}(h:P.underlying d=some (.slice i))(w:World)(E:TypeId)(b:Array Value)(m:List UInt8)(c g:Nat)(j:g=w.heap.size)(e:b.toList=cb m):Src P 1 d (.slice (some (g,0)) m.length c) m.length (cb m) (w.alloc (.cells b E)):=by
 subst j;exact kh h w E b m c e
theorem bR.bK (h:bR w base E v l):∃A n cap,v= .slice A n cap/\Hid (n=l.length)/\n<=cap/\cap<=9223372036854775807:=by
 obtain⟨A,cap,b,d,c⟩:=h.form;exact⟨A,_,cap,b,za rfl,d,c⟩
theorem af.kept {b:Array Value}(h:af w g t b)(i:Kept E base w w')(d:t≠E):af w' g t b:=i.other g _ h (by
 intro c f e;injection e with _ e2;exact d e2)
theorem af.ah {b:Array Value}(h:af w g t b)(d:Below B w w')(c:g<B):af w' g t b:=(d.block g c).trans h
theorem bq {a b c:Value}(h:af w g t #[a,b,c]):(w,g,0,a)/\(w,g,1,b)/\(w,g,2,c)/\w.frozen? (g,0)=false/\w.frozen? (g,1)=false/\w.frozen? (g,2)=false:=
 ⟨h.cell 0,h.cell 1,h.cell 2,h.frozen 0,h.frozen 1,h.frozen 2⟩
structure lP (w w':World)(v v':Value):Prop where
 grown:w.grownBy w' v.ownBlock
 own:v'.ownBlock=v.ownBlock\/∃g,v'.ownBlock=some g/\w.heap.size<=g
theorem lP.refl (w:World)(v:Value):lP w w v v:=⟨World.grownBy.refl _ _,.inl rfl⟩
theorem lP.size {v':Value}(h:lP w w' v v'):w.heap.size<=w'.heap.size:=h.grown.size
theorem lP.trans {b c:World}{i l:Value}(h:lP a b v i)(k:lP b c i l):lP a c v l:=by
 refine⟨h.grown.andThen k.grown fun j d=> ?_, ?_⟩
 ·rcases h.own with e|⟨g,e,hg⟩
  ·exact .inr (by rw[<-e,d])
  rw[e]at d;injection d with d;exact .inl (by omega)
 rcases k.own with e|⟨g,e,hg⟩
 ·rcases h.own with e2|⟨g2,e2,pZ⟩
  ·exact .inl (e.trans e2)
  exact .inr ⟨g2,e.trans e2,pZ⟩
 exact .inr ⟨g,e,by have:=h.size;omega⟩
theorem cT {b:World}(h:Below a.heap.size a b):a.grownBy b none:=⟨h.os,h.tape,h.output,h.size,fun k c _=>h.block k c⟩
theorem iK {b:World}(h:a.grownBy b none)(r:Option Nat):a.grownBy b r:=⟨h.os,h.tape,h.output,h.size,fun k c _=>h.block k c (by simp)⟩
theorem lP.ahead {b c:World}{d:Value}(h:Below a.heap.size a b)(k:lP b c v d):lP a c v d:=(show lP a b v v from⟨iK (cT h) _,.inl rfl⟩).trans k
theorem lP.behind {b c:World}{d:Value}(h:lP a b v d)(k:Below b.heap.size b c):lP a c v d:=h.trans (show lP b c d d from⟨iK (cT k) _,.inl rfl⟩)
theorem lP.below {b c:World}{i:Value}(h:Below B a b)(k:lP b c v i)(d:B<=b.heap.size)(e:∀g,v.ownBlock=some g->B<=g):Below B a c:=h.grown k.grown d e
theorem lP.block {b:World}{i:Value}(h:lP a b v i)(d:k<a.heap.size)(c:v.ownBlock≠some k):b.heap[k]?=a.heap[k]?:=h.grown.block k d (fun e=>c e.symm)
theorem bR.ge (h:bR w base E v l):∀g,v.ownBlock=some g->base<=g/\g<w.heap.size/\∃d c,w.heap[g]?=some (.cells d E c):=by
 obtain⟨A,cap,rfl,o,n,k⟩:=h;intro g i;rcases k with⟨b,_⟩|⟨j,d,c,b,m,e,_⟩
 ·subst b;cases i
 subst b;have:j=g:=by simpa[Value.ownBlock]using i
 subst this;exact⟨m,yp e,d,c,e⟩
theorem bR.cw {j:Array Value}{i:Nat×Nat}(h:bR w base E v l)(d:w.heap[g]?=some (.cells j t i))(c:t≠E):v.ownBlock≠some g:=by
 intro e;obtain⟨_,_,k,m,b⟩:=h.ge g e;rw[d]at b;injection b with b;injection b with _ b;exact c b
theorem bR.ah (h:bR w base E v l)(c:∀k,k<w.heap.size->v.ownBlock=some k->w'.heap[k]?=w.heap[k]?):bR w' base E v l:=by
 obtain⟨A,cap,rfl,e,d,b⟩:=h;refine⟨A,cap,rfl,e,d, ?_⟩;rcases b with b|⟨g,cur,fr,hA,hg,hh,r⟩
 ·exact .inl b
 exact .inr ⟨g,cur,fr,hA,hg,(c g (yp hh) (by subst hA;rfl)).trans hh,r⟩
theorem af.Ur {b:Array Value}{e:Value}(h:af w g t b)(d:lP w w' v e)(c:v.ownBlock≠some g):af w' g t b:=(d.block h.lt c).trans h
theorem bR.DQ {P:Program}(h:bR w base E v l)(t d ty:TypeId)(i:TypeInfo)(x:P.underlying t=some (.slice E))(hi:P.info? E=some i)(hz:i.zero=some (.int .u8 0))(n:i.size=1)(U:i.bytes=1)
 (c:Value) (m:List UInt8) (X:Src P 1 d c m.length (cb m) w) (M:base<=w.heap.size) (ab:l.length+m.length<=140737488355328):
 ∃y w',(Builtin.append_ #[t,d] ty #[v,c]).run P w= .ok y w'/\bR w' base E y (l++m)/\lP w w' v y:=by
 obtain⟨A,cap,rfl,N,K,I⟩:=h;have s:Src P i.size d c m.length (cb m) w:=by rw[n];exact X
 by_cases J:l.length+m.length<=cap
 ·rcases I with⟨b,B⟩|⟨g,q,C,b,G,o,z,u,p⟩
  ·subst b;subst B;have F:l= []:=zk (by omega);have Z:m= []:=zk (by omega);subst F;subst Z;exact⟨_,w,ZI w t d ty E i x hi none 0 0 (ze _) c s,bR.nil w base E,lP.refl _ _⟩
  subst b;have r:=run_append_room_src (P:=P) w t d ty E i x hi g 0 l.length cap c m.length (cb m) s J
   (by
    intro j D;rw[aO]at D;have:0+l.length*i.size+j<q.size:=by rw[n,z];omega
    simp only[World.cell?,o];rw[Zm this];rfl)
   (by
    intro j D;rw[aO]at D;exact dR o (by rw[n];rcases p with h|h;exact .inl h;exact .inr (by omega)))
  rw[n,xH,zK]at r;obtain⟨S,c1,c2,H⟩:=fM (cb m) l.length w q o (by rw[aO];omega);refine⟨_,_,r,⟨_,cap,by rw[zh],by rw[zh];exact J,K,.inr ⟨g,S,C,rfl,G,c1,by omega, ?_,p⟩⟩,⟨Yc _ _ _ _,iD _ _ _ _,ZC _ _ _ _,by rw[fN];exact ze _,fun k W L=>Zi w g l.length (cb m) W (fun e=>L (by subst e;rfl))⟩,.inl rfl⟩;rw[zh,eL];rw[aO,u]at H;exact H
 have aa:(Builtin.firstCells i.size l.length (.slice A l.length cap)).run P w.drew= .ok (cb l).toArray w.drew:=by
  rcases I with⟨b,B⟩|⟨g,q,C,b,G,o,z,u,p⟩
  ·subst b;subst B;have F:l= []:=zk (by omega);subst F;exact run_firstCells_none w.drew i.size 0 0 0
  have Y:=bR.cells (w:=w) (base:=base) (E:=E) (A:=A) (cap:=cap) (l:=l) ⟨A,cap,rfl,N,K,.inr ⟨g,q,C,b,G,o,z,u,p⟩⟩ (g,0) b;subst b;exact run_firstCells_some w.drew i.size l.length _ l.length cap (cb l) (by rw[aO,n,xH]) Y
 have R:Builtin.nextslicecap (l.length+m.length) cap*i.bytes<=281474976710656:=by
  rw[U];exact growslice_fits (by omega) (by omega)
 have r:=run_append_grow_src (P:=P) w t d ty E i (.int .u8 0) x hi hz A l.length cap (cb l) aa c m.length (cb m) s (by omega) (by omega) R;have O:=grownCap_ge w (l.length+m.length) cap E;have g2:=Zs w (l.length+m.length) cap E (by simp[maxLen];omega);refine⟨_,_,r,⟨_,_,by rw[zh],by rw[zh];exact O,by simpa[maxLen]using g2,.inr ⟨w.heap.size,_,(0,0),rfl,M,yK w.drew _, ?_, ?_,.inl rfl⟩⟩,iK (cT ((zi w.heap.size w).drew.alloc (by simp) _)) _,.inr ⟨w.heap.size,rfl,ze _⟩⟩
 ·simp only[Array.size_append,Zy,zh,aO,size_zeroCells];have:(Value.int .u8 0).cells.size=1:=rfl;rw[this];omega
 rw[Array.toList_append,zh,zS (by simp[aO]),eL];exact zw (by simp[aO])
theorem mZ {P:Program}{a:Act}{K:Act->World->Prop}(s x:Operand)(t j:TypeId)
 (B:o.op= .call {callee:= .builtin .append,args:= #[s,x],argTypes:= #[t,j]}) (base:Nat) (E:TypeId) (i:TypeInfo) (A:P.underlying t=some (.slice E)) (hi:P.info? E=some i) (hz:i.zero=some (.int .u8 0)) (n:i.size=1) (z:i.bytes=1)
   (u:a.eval s=v) (h:bR w base E v l) (d:Value) (m:List UInt8) (hx:a.eval x=d) (C:Src P 1 j d m.length (cb m) w) (r:base<=w.heap.size) (D:l.length+m.length<=140737488355328)
 (F:∀(b:Option Addr) (e c:Nat) w',bR w' base E (.slice b e c) (l++m)->lP w w' v (.slice b e c)->K (a.put o.dst (.slice b e c)) w'):Oper.wp P o a w K Q:=by
 obtain⟨G,w',y,k,p⟩:=h.DQ (P:=P) t j o.type i A hi hz n z d m C r D;obtain⟨b,c,q,_⟩:=k.form;unfold Oper.wp;simp[execOp,B,resolve,invoke,builtin,u,hx,y,Result.andThen];subst q;exact F _ _ _ w' k p
theorem cx {P:Program}{rest:List Oper}{a:Act}(r:o.guard=none)(s x:Operand)(t j:TypeId)
 (z:o.op= .call {callee:= .builtin .append,args:= #[s,x],argTypes:= #[t,j]}) (base:Nat) (E:TypeId) (i:TypeInfo) (y:P.underlying t=some (.slice E)) (hi:P.info? E=some i) (hz:i.zero=some (.int .u8 0)) (k:i.size=1) (u:i.bytes=1)
   (q:a.eval s=v) (h:bR w base E v l) (e:Value) (m:List UInt8) (hx:a.eval x=e) (A:Src P 1 j e m.length (cb m) w) (p:base<=w.heap.size) (C:l.length+m.length<=140737488355328)
 (D:∀(b:Option Addr) (d c:Nat) w',bR w' base E (.slice b d c) (l++m)->lP w w' v (.slice b d c)->wpList P ops Q rest (a.put o.dst (.slice b d c)) w'):wpList P ops Q (o::rest) a w:=
 Yq r fun _ B=>mZ s x t j z base E i y hi hz k u q h e m hx A p C fun b d c w' F n=>B _ _ (D b d c w' F n)
theorem sx {P:Program}{a:Act}{K:Act->World->Prop}{D:Prop}(r:o.guard=none)(s x:Operand)(t j:TypeId)
 (z:o.op= .call {callee:= .builtin .append,args:= #[s,x],argTypes:= #[t,j]}) (base:Nat) (E:TypeId) (i:TypeInfo) (y:P.underlying t=some (.slice E)) (hi:P.info? E=some i) (hz:i.zero=some (.int .u8 0)) (k:i.size=1) (u:i.bytes=1)
   (p:a.eval s=v) (h:bR w base E v l) (b:Value) (m:List UInt8) (hx:a.eval x=b) (A:Src P 1 j b m.length (cb m) w) (n:base<=w.heap.size) (B:l.length+m.length<=140737488355328)
 (C:∀(c:Option Addr) (e d:Nat) w',bR w' base E (.slice c e d) (l++m)->lP w w' v (.slice c e d)->K (a.put o.dst (.slice c e d)) w'):
 if Region.wanted o (yielded ops a.tmps)=true then Oper.wp P o a w K Q else D:=by
 have q:Region.wanted o (yielded ops a.tmps)=true:=by simp[Region.wanted,r]
 rw[zg q];exact mZ s x t j z base E i y hi hz k u p h b m hx A n B C
theorem pF {b:UInt8}(c:s.data.toList[k]?=some b):∃h:k<s.size,s[k]=b:=by
 have h:k<s.size:=by
  have:=(yR.1 c).1;simpa using this
 refine⟨h, ?_⟩;rw[iA s k h]at c;injection c
theorem kV {size f b c:Nat}{out d:List UInt8}(h:k<s.size)(i:s[k].toNat=b)(e:b8 s size k b out=(0,c,d)):gX s size (f+1) k out=gX s size f c d:=by
 rw[gX,Ys h,i,e,zg rfl]
def aR (n:Nat):List UInt8:=if n<128 then [ub n]else ub (n%128+128:Nat)::aR (n/128)
termination_by n
theorem il (h:n<128):aR n= [ub n]:=by rw[aR,zg h]
theorem jy (h:¬n<128):aR n=ub (n%128+128:Nat)::aR (n/128):=by rw[aR,zf h]
theorem FW (n:Nat):1<=(aR n).length:=by
 by_cases h:n<128
 ·simp[il h]
 simp[jy h]
theorem bC (k:Nat):∀n,n<128^k->1<=k->(aR n).length<=k:=by
 induction k with
 |zero=>intro n _ h;omega
 |succ k ih=>
  intro n b _;by_cases h:n<128
  ·simp[il h]
  rw[jy h,zx];rcases Zt k with h0|h0
  ·subst h0;simp at b;omega
  have:=ih (n/128) (by rw[Zv]at b;exact Za (by rw[Zw];exact b)) h0;omega
theorem NU (n:Nat):∀(s:ByteArray) (pre rest:List UInt8) (i m:Nat),s.data.toList=pre++(aR n++rest)->pre.length=i->i<=9->n<2^(64-7*i)->(i=0\/0<n)->
 cl s (10-i) i m=(m+n*2^(7*i),i+(aR n).length,0):=by
 induction n using Nat.strongRecOn with
 |ind n ih=>
  intro s pre rest i m d j hi q w;rw[show 10-i=(9-i)+1 from by omega];have r:i=9->n<=1:=by
   intro h;subst h;have:(2:Nat)^(64-7*9)=2:=by decide
   omega
  by_cases h:n<128
  ·rw[il h]at d⊢;obtain⟨g,e⟩:=pF (s:=s) (k:=i) (b:=ub n) (by rw[d,yg (by omega),j];simp);have c:s[i].toNat=n:=by rw[e,bn n (by omega)]
   rw[jH s _ i m g (by rw[c];omega) (by rw[c];exact h),c,Nat.mod_eq_of_lt h];simp
  rw[jy h]at d⊢;obtain⟨g,e⟩:=pF (s:=s) (k:=i) (b:=ub (n%128+128:Nat)) (by rw[d,yg (by omega),j];simp);have c:s[i].toNat=n%128+128:=by rw[e,bn _ (by omega)]
  rw[jI s _ i m g (by rw[c];omega) (by rw[c];omega),c];have u:7*i+7<=64:=by
   rcases xp i 9 with h9|h9
   ·omega
   have:=r (by omega);omega
  have l:2^(64-7*i)=2^(64-7*(i+1))*128:=by
   rw[show 64-7*i=(64-7*(i+1))+7 from by omega,xY]
  have hd:n/128<2^(64-7*(i+1)):=Za (by rw[Zw,<-l];exact q);have:=ih (n/128) (by omega) s (pre++ [ub (n%128+128:Nat)]) rest (i+1) (m+(n%128+128)%128*2^(7*i)) (by rw[d];simp) (by simp;omega) (by omega) hd (Or.inr (by omega));rw[show 9-i=10-(i+1)from by omega,this];have p:2^(7*(i+1))=128*2^(7*i):=by rw[show 7*(i+1)=7+7*i from by omega,xY]
  have o:m+(n%128+128)%128*2^(7*i)+n/128*2^(7*(i+1))=m+n*2^(7*i):=by
   rw[p,show(n%128+128)%128=n%128 from by omega,<-Nat.mul_assoc,yd,<-Nat.add_mul,show n%128+n/128*128=n from by omega]
  rw[o];exact ZT rfl (ZT (by simp only[zx];omega) rfl)
theorem km (n:Nat)(s:ByteArray)(rest:List UInt8)(c:s.data.toList=aR n++rest)(b:n<18446744073709551616):ay s=(n,(aR n).length,0):=by
 have:=NU n s [] rest 0 0 (by simpa using c) rfl (by omega) (by simpa using b) (Or.inl rfl);simpa[ay]using this
def mt (L:List UInt8)(j i:Nat):Nat->Nat
 |0=>0
 |f+1=>if i<L.length/\L[j]?=L[i]? then mt L (j+1) (i+1) f+1 else 0
def Ju (L:List UInt8)(i:Nat):Nat->Option Nat
 |0=>none
 |j+1=>if 4<=mt L j i 64 then some j else Ju L i j
def im (l:List UInt8):List UInt8:=
 if l.length=0 then []else if l.length<=60 then ub (4*(l.length-1):Nat)::l
 else if l.length<=256 then 240::ub (l.length-1:Nat)::l
 else 244::ub ((l.length-1)%256:Nat)::ub ((l.length-1)/256:Nat)::l
def kW (n d:Nat):List UInt8:=
 if n<=11/\d<2048 then [ub (1+4*(n-4)+32*(d/256):Nat),ub (d%256:Nat)]
 else [ub (2+4*(n-1):Nat),ub (d%256:Nat),ub (d/256:Nat)]
def pk (L:List UInt8):Nat->Nat->Nat->List UInt8
 |0,_,_=> []
 |f+1,p,i=>if i<L.length then
  (match Ju L i i with
  |none=>pk L f p (i+1)
  |some j=>im ((L.take i).drop p)++(kW (mt L j i 64) (i-j)++pk L f (i+mt L j i 64) (i+mt L j i 64)))
  else im (L.drop p)
def pack (L:List UInt8):List UInt8:=aR L.length++pk L (L.length+1) 0 0
theorem CD (L:List UInt8)(f:Nat):∀j i,mt L j i f<=f/\(i<=L.length->i+mt L j i f<=L.length):=by
 induction f with
 |zero=>intro j i;simp[mt]
 |succ f ih=>
  intro j i;have:=ih (j+1) (i+1);unfold mt;split<;>omega
theorem FX (L:List UInt8)(f:Nat):∀j i n,n<mt L j i f->L[j+n]?=L[i+n]?:=by
 induction f with
 |zero=>intro j i n h;simp[mt]at h
 |succ f ih=>
  intro j i n h;unfold mt at h;split at h
  ·rename_i b
   cases n with
   |zero=>exact b.2
   |succ n=>
    have:=ih (j+1) (i+1) n (by omega);rw[show j+(n+1)=j+1+n from by omega,show i+(n+1)=i+1+n from by omega];exact this
  omega
theorem qw (L:List UInt8)(i:Nat):∀k j,Ju L i k=some j->j<k/\4<=mt L j i 64:=by
 intro k;induction k with
 |zero=>intro j h;simp[Ju]at h
 |succ k ih=>
  intro j h;unfold Ju at h;split at h
  ·rename_i b
   injection h with h;subst h;exact⟨by omega,b⟩
  have:=ih j h;omega
theorem aab (L:List UInt8)(j i:Nat)(d:j<i)(hi:i<=L.length):∀n,n<=mt L j i 64->vj (L.take i) (i-j) n=L.take (i+n):=by
 intro n;induction n with
 |zero=>intro _;rfl
 |succ n ih=>
  intro e;have h:=(CD L 64 j i).2 hi;rw[FG,ih (by omega)];have b:(L.take (i+n)).length=i+n:=by rw[zQ];omega
  have c:=FX L 64 j i n (by omega);rw[b,show i+n-(i-j)=j+n from by omega,show i+(n+1)=(i+n)+1 from by omega,yn (by omega)];congr 1
  rw[zu,yk (by omega),c,zr (by omega)];rfl
theorem kn (l:List UInt8)(h:l.length<=65536):l.length<=(im l).length/\(im l).length<=l.length+(if l.length=0 then 0 else if l.length<=60 then 1 else if l.length<=256 then 2 else 3):=by
 unfold im;split
 ·rename_i b;simp[b]
 split
 ·simp
 split<;>simp<;>omega
theorem tC (n d:Nat):2<=(kW n d).length/\(kW n d).length<=3:=by
 unfold kW;split<;>simp
theorem NV (L:List UInt8)(n:L.length<=65536)(f:Nat):∀p i,p<=i->i<=L.length->32*(pk L f p i).length<=33*(L.length-p)+96:=by
 induction f with
 |zero=>intro p i _ _;simp[pk]
 |succ f ih=>
  intro p i e hi;unfold pk;split
  ·cases hf:Ju L i i with
   |none=>exact ih p (i+1) (by omega) (by omega)
   |some j=>
    obtain⟨h,m⟩:=qw L i i j hf;have d:=(CD L 64 j i).2 hi;have k:=ih (i+mt L j i 64) (i+mt L j i 64) (ze _) d;have l:=tC (mt L j i 64) (i-j);have c:((L.take i).drop p).length=i-p:=by simp;omega
    have b:=kn ((L.take i).drop p) (by omega);rw[c]at b;simp only[zh];split at b
    ·omega
    split at b
    ·omega
    split at b<;>omega
  have c:(L.drop p).length=L.length-p:=by simp
  have b:=kn (L.drop p) (by omega);rw[c]at b;split at b
  ·omega
  split at b
  ·omega
  split at b<;>omega
theorem tD (L:List UInt8)(b:L.length<=65536):(pack L).length<=L.length+L.length/32+8:=by
 have c:=NV L b (L.length+1) 0 0 (ze _) (ya _);have d:=bC 3 L.length (by omega) (by omega);unfold pack;rw[zh];omega
theorem FY (B:ByteArray)(size:Nat)(pre l rest out:List UInt8)(c:B.data.toList=pre++(im l++rest))(q:l.length<=65536)(r:out.length+l.length<=size):
 ∃n,n<=(im l).length/\∀F,gX B size (F+n) pre.length out=gX B size F (pre.length+(im l).length) (out++l):=by
 by_cases p:l.length=0
 ·have:l= []:=zk p;subst this;exact⟨0,by simp,fun F=>by simp[im]⟩
 refine⟨1, ?_,fun F=> ?_⟩
 ·have:=kn l q;omega
 have hz:B.size=pre.length+(im l).length+rest.length:=by rw[<-aa,c];simp[yd]
 have hcut:∀a b,(B.extract (pre.length+a) (pre.length+b)).data.toList=((im l++rest).take b).drop a:=by
  intro a b;rw[aq,c,List.take_append,List.drop_append,show pre.length+b-pre.length=b from by omega,zL (by rw[zQ];omega),yo,zQ,show pre.length+a-min (pre.length+b) pre.length=a from by omega]
 unfold im at c hz hcut⊢;rw[zf p]at c hz hcut⊢;by_cases m:l.length<=60
 ·rw[zg m]at c hz hcut⊢;obtain⟨g,e⟩:=pF (s:=B) (k:=pre.length) (b:=ub (4*(l.length-1):Nat)) (by rw[c];simp);have h:B[pre.length].toNat=4*(l.length-1):=by rw[e,bn _ (by omega)]
  have d:bh (4*(l.length-1))=1:=by unfold bh;rw[zg (by omega),zf (by omega)]
  have i:∀x,cN (4*(l.length-1)) x=l.length:=by intro x;unfold cN;rw[zg (by omega),zf (by omega)];omega
  simp only[zx]at hz⊢;refine kV g h ?_;unfold b8;rw[i,d,zf (by omega),zf (by omega),zg (by omega),zf (by omega),show pre.length+1+l.length=pre.length+(1+l.length)from by omega,hcut];simp only[zT,Zx 1,zO,zV,zG,zS (ze l.length),ZM]
 rw[zf m]at c hz hcut⊢;by_cases o:l.length<=256
 ·rw[zg o]at c hz hcut⊢;obtain⟨g,e⟩:=pF (s:=B) (k:=pre.length) (b:=240) (by rw[c];simp);have h:B[pre.length].toNat=240:=by rw[e];rfl
  have d:bh 240=2:=by decide
  simp only[zx]at hz⊢;have j:iG B pre.length 240=l.length-1:=by
   unfold iG;rw[d,hcut];simp only[zT,zO,zV,zG,yq];simp only[dg,bn (l.length-1) (by omega)];omega
  have i:cN 240 (l.length-1)=l.length:=by unfold cN;rw[zg (by omega),zg (by omega)];omega
  refine kV g h ?_;unfold b8;rw[j,i,d,zf (by omega),zf (by omega),zg (by omega),zf (by omega),show pre.length+2+l.length=pre.length+(l.length+2)from by omega,hcut];simp only[zT,zO,zV,zG,zS (ze l.length),ZM]
 rw[zf o]at c hz hcut⊢;obtain⟨g,e⟩:=pF (s:=B) (k:=pre.length) (b:=244) (by rw[c];simp);have h:B[pre.length].toNat=244:=by rw[e];rfl
 have d:bh 244=3:=by decide
 simp only[zx]at hz⊢;have j:iG B pre.length 244=l.length-1:=by
  unfold iG;rw[d,hcut];simp only[zT,zO,zV,zG,yq];simp only[dg,bn ((l.length-1)%256) (by omega),bn ((l.length-1)/256) (by omega)];omega
 have i:cN 244 (l.length-1)=l.length:=by unfold cN;rw[zg (by omega),zg (by omega)];omega
 refine kV g h ?_;unfold b8;rw[j,i,d,zf (by omega),zf (by omega),zg (by omega),zf (by omega),show pre.length+3+l.length=pre.length+(l.length+3)from by omega,hcut];simp only[zT,zO,zV,zG,zS (ze l.length),ZM]
theorem QU (B:ByteArray)(size n d:Nat)(pre rest out:List UInt8)(c:B.data.toList=pre++(kW n d++rest))(q:4<=n)(p:n<=64)(hd:1<=d)(w:d<=out.length)(u:d<65536)(r:out.length+n<=size)(F:Nat):
 gX B size (F+1) pre.length out=gX B size F (pre.length+(kW n d).length) (vj out d n):=by
 have hz:B.size=pre.length+(kW n d).length+rest.length:=by rw[<-aa,c];simp[yd]
 have hcut:∀a b,(B.extract (pre.length+a) (pre.length+b)).data.toList=((kW n d++rest).take b).drop a:=by
  intro a b;rw[aq,c,List.take_append,List.drop_append,show pre.length+b-pre.length=b from by omega,zL (by rw[zQ];omega),yo,zQ,show pre.length+a-min (pre.length+b) pre.length=a from by omega]
 unfold kW at c hz hcut⊢;by_cases o:n<=11/\d<2048
 ·rw[zg o]at c hz hcut⊢;obtain⟨g,e⟩:=pF (s:=B) (k:=pre.length) (b:=ub (1+4*(n-4)+32*(d/256):Nat)) (by rw[c];simp);have i:B[pre.length].toNat=1+4*(n-4)+32*(d/256):=by rw[e,bn _ (by omega)]
  have h:bh (1+4*(n-4)+32*(d/256))=2:=by unfold bh;rw[zf (by omega),zg (by omega)]
  simp only[zx,zM]at hz⊢;have j:iG B pre.length (1+4*(n-4)+32*(d/256))=d%256:=by
   unfold iG;rw[h,hcut];simp only[zT,zO,zV,zG,yq];simp only[dg,bn (d%256) (by omega)];omega
  have m:∀x,cN (1+4*(n-4)+32*(d/256)) x=n:=by intro x;unfold cN;rw[zf (by omega),zg (by omega)];omega
  have l:kf (1+4*(n-4)+32*(d/256)) (d%256)=d:=by unfold kf;rw[zg (by omega)];omega
  refine kV g i ?_;unfold b8;rw[j,l,m,h,zf (by omega),zf (by omega),zf (by omega)]
 rw[zf o]at c hz hcut⊢;obtain⟨g,e⟩:=pF (s:=B) (k:=pre.length) (b:=ub (2+4*(n-1):Nat)) (by rw[c];simp);have i:B[pre.length].toNat=2+4*(n-1):=by rw[e,bn _ (by omega)]
 have h:bh (2+4*(n-1))=3:=by unfold bh;rw[zf (by omega),zf (by omega),zg (by omega)]
 simp only[zx,zM]at hz⊢;have j:iG B pre.length (2+4*(n-1))=d:=by
  unfold iG;rw[h,hcut];simp only[zT,zO,zV,zG,yq];simp only[dg,bn (d%256) (by omega),bn (d/256) (by omega)];omega
 have m:∀x,cN (2+4*(n-1)) x=n:=by intro x;unfold cN;rw[zf (by omega),zf (by omega)];omega
 have l:kf (2+4*(n-1)) d=d:=by unfold kf;rw[zf (by omega)]
 refine kV g i ?_;unfold b8;rw[j,l,m,h,zf (by omega),zf (by omega),zf (by omega)]
theorem U7 (B:ByteArray)(L:List UInt8)(E:L.length<=65536)(f:Nat):∀(p i:Nat) (pre:List UInt8),p<=i->i<=L.length->L.length-i<f->B.data.toList=pre++pk L f p i->
 ∃n,n<=(pk L f p i).length/\∀F,gX B L.length (F+n) pre.length (L.take p)=gX B L.length F B.size L:=by
 induction f with
 |zero=>intro p i pre _ _ h;omega
 |succ f ih=>
  intro p i pre w hi A b;unfold pk at b⊢;by_cases h:i<L.length
  ·rw[zg h]at b⊢;cases hfd:Ju L i i with
   |none=>
    rw[hfd]at b;exact ih p (i+1) pre (by omega) (by omega) (by omega) b
   |some j=>
    rw[hfd]at b;simp only at b⊢;obtain⟨x,r⟩:=qw L i i j hfd;have k:=CD L 64 j i;have s:=k.2 hi;have D:((L.take i).drop p).length=i-p:=by simp;omega
    have C:(L.take p).length=p:=by rw[zQ];omega
    have u:(L.take i).length=i:=by rw[zQ];omega
    have q:L.take p++(L.take i).drop p=L.take i:=by
     have:=zE p (L.take i);rwa [xw,yF w]at this
    obtain⟨n1,e,c⟩:=FY B L.length pre ((L.take i).drop p) _ (L.take p) b (by omega) (by omega);rw[q]at c;have l:B.data.toList=(pre++im ((L.take i).drop p))++(kW (mt L j i 64) (i-j)++pk L f (i+mt L j i 64) (i+mt L j i 64)):=by rw[b,zB]
    have o:=QU B L.length (mt L j i 64) (i-j) _ _ (L.take i) l r k.1 (by omega) (by omega) (by omega) (by omega);rw[aab L j i x hi _ (ze _),zh]at o;have y:B.data.toList=((pre++im ((L.take i).drop p))++kW (mt L j i 64) (i-j))++pk L f (i+mt L j i 64) (i+mt L j i 64):=by rw[l,zB _ (kW _ _) _]
    obtain⟨d,z,m⟩:=ih _ _ _ (ze _) s (by omega) y;rw[zh,zh]at m;refine⟨d+1+n1, ?_,fun F=> ?_⟩
    ·have:=tC (mt L j i 64) (i-j);simp only[zh];omega
    rw[show F+(d+1+n1)=(F+d+1)+n1 from by omega,c,o,m]
  rw[zf h]at b⊢;have u:(L.take p).length=p:=by rw[zQ];omega
  obtain⟨n1,e,c⟩:=FY B L.length pre (L.drop p) [] (L.take p) (by simpa using b) (by simp;omega) (by simp;omega);refine⟨n1,e,fun F=> ?_⟩;rw[c,zE];congr 1
  rw[<-aa,b,zh]
theorem CE (s:ByteArray)(L:List UInt8)(c:L.length<=65536)(b:s.data.toList=pack L):aB s=(L.length,(aR L.length).length,0):=by
 unfold pack at b;have h:=km L.length s _ b (by omega);unfold aB;rw[h,zg rfl,zf (by simp;omega)]
theorem FZ (s:ByteArray)(L:List UInt8)(d:L.length<=65536)(b:s.data.toList=pack L)(most:Int)(j:L.length<=most):bc s most=(0,L):=by
 have h:=CE s L d b;unfold bc;rw[h];simp only[YC,yV,xO];rw[zf (by omega)];unfold pack at b;generalize e:s.extract (aR L.length).length s.size=B;have c:B.data.toList=pk L (L.length+1) 0 0:=by
  rw[<-e,aq,cQ,b,yy (ze _),Yo,yo]
 obtain⟨n,k,i⟩:=U7 B L d (L.length+1) 0 0 [] (ze _) (ya _) (by omega) (by simpa using c);unfold iZ;have hz:B.size=(pk L (L.length+1) 0 0).length:=by rw[<-aa,c]
 rw[show B.size+1=(B.size-n+1)+n from by omega];have:=i (B.size-n+1);simp only[zM,yq]at this;rw[this];unfold gX;rw[dif_neg (by omega),zf (by omega)]
