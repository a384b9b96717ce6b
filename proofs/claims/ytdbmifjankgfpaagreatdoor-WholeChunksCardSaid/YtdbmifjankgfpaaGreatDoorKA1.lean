/- Words for memory: a block that is known whole ('Blk'), a world that has turned at some blocks alone ('Only'), a slice that reads as a list ('Reads'). Own text; no program in sight. -/
import Derived.WalkKit
import Derived.Deep.AppendLies
import Derived.Deep.Draws
import Derived.Lib.Hide
import Derived.Lib.AtoiErrMem
import Derived.Test.YtdbmifjankgfpaaGreatDoorKA2
import Derived.Deep.Upon
import Derived.Deep.RegionLaw
import Derived.Maps.Range
set_option linter.all false
namespace Go.Proofs.YtdbmifjankgfpaaGreatDoor
open Go.RowKit
def za:=@Lib.hid
def ze:=@List.set_cons_zero
def zl:=@Below.refl
def zz:=@World.cell?_alloc_lt
def zC:=@Decidable.not_not
def zD:=@World.cell?_of_block
def zF:=@Nat.le_trans
def zK:=@List.drop_zero
def zL:=@List.length_nil
def zM:=@Nat.zero_add
def zP:=@List.take_succ_cons
def zQ:=@Below.heap_setCell
def yc:=@Nat.zero_le
def yd:=@Array.getElem?_eq_some_iff
def yg:=@List.drop_succ_cons
def yu:=@List.nil_append
def yv:=@List.length_singleton
def yz:=@List.take_zero
def yA:=@List.getElem?_take_of_lt
def yG:=@lt_of_block
def yM:=@heap_alloc_new
def yU:=@not_true_eq_false
def xe:=@List.take_take
def xu:=@List.set_append_right
def xx:=@List.getElem?_eq_some_iff
def xD:=@List.mem_map
def xG:=@if_false
def xQ:=@Array.getElem?_eq_none
def xS:=@List.getElem?_map
def xW:=@Nat.mul_one
def xX:=@Nat.div_lt_of_lt_mul
def Zg:=@List.length_set
def Zj:=@Nat.eq_zero_or_pos
def Zq:=@Nat.pow_succ
def Zs:=@Nat.add_comm
def ZA:=@Array.getElem?_modify
def ZE:=@Below.heap_alloc
def ZH:=@Prod.ext
def ZM:=@World.news_of_block
def ZS:=@grownCap_le_maxLen
def ZX:=@Array.toList_setIfInBounds
def ZY:=@World.heap_setCells_other
def Z0:=@Array.getElem?_eq_getElem
def Z3:=@List.take_add_one
def Z4:=@List.size_toArray
def Z6:=@run_convert_bytes_string
def Z9:=@List.take_length
def Ya:=@List.drop_length
def Yn:=@World.output_setCells
def Yo:=@Go.run_append_nothing
def af (w:World)(g:Nat)(t:TypeId)(cs:Array Value):Prop:=w.heap[g]?=some (.cells cs t (0,0))
theorem af.lt {w:World}{g:Nat}{t:TypeId}{b:Array Value}(h:af w g t b):g<w.heap.size:=yG h
theorem af.cell {w:World}{g:Nat}{t:TypeId}{b:Array Value}(h:af w g t b)(i:Nat):w.cell? ⟨g,i,none⟩=b[i]?:=by
 unfold af at h;simp[World.cell?,h]
theorem af.frozen {w:World}{g:Nat}{t:TypeId}{b:Array Value}(h:af w g t b)(i:Nat):w.frozen? ⟨g,i,none⟩=false:=by
 unfold af at h;simp[World.frozen?,h]
theorem af.new (w:World)(t:TypeId)(b:Array Value):af (w.alloc (.cells b t)) w.heap.size t b:=yM w _
theorem af.drew {w:World}{g:Nat}{t:TypeId}{b:Array Value}(h:af w g t b):af w.drew g t b:=h
theorem af.drewN {w:World}{g:Nat}{t:TypeId}{b:Array Value}(h:af w g t b)(n:Nat):af (w.drewN n) g t b:=h
theorem af.alloc {w:World}{g:Nat}{t:TypeId}{b:Array Value}(h:af w g t b)(o:Obj):af (w.alloc o) g t b:=(ZE w o g h.lt).trans h
theorem af.set {w:World}{g:Nat}{t:TypeId}{b:Array Value}(h:af w g t b)(i:Nat)(u:Value):af (w.setCell ⟨g,i,none⟩ u) g t (b.setIfInBounds i u):=by
 unfold af at h⊢;simp[World.setCell,ZA,h]
theorem af.dK {w:World}{g:Nat}{t:TypeId}{b:Array Value}(h:af w g t b){p:Addr}(c:g≠p.block)(u:Value):af (w.setCell p u) g t b:=(zQ w p u g c).trans h
theorem af.beside {w:World}{g:Nat}{t:TypeId}{b:Array Value}{p:Addr}(c:g≠p.block)(h:af w g t b)(u:Value):af (w.setCell p u) g t b:=h.dK c u
theorem af.store {w:World}{g:Nat}{t:TypeId}{c b:Array Value}{i:Nat}{u:Value}(h:af w g t c)(e:c.setIfInBounds i u=b):af (w.setCell ⟨g,i,none⟩ u) g t b:=e▸h.set i u
structure ae (L:List Nat)(w w':World):Prop where
 os:w'.os=w.os
 tape:w'.tape=w.tape
 output:w'.output=w.output
 size:w.heap.size<=w'.heap.size
 block:∀k,k<w.heap.size->k∉L->w'.heap[k]?=w.heap[k]?
theorem ae.refl (L:List Nat)(w:World):ae L w w:=⟨rfl,rfl,rfl,zd _,fun _ _ _=>rfl⟩
theorem ae.trans' {L M:List Nat}{a b c:World}(h:ae L a b)(k:ae M b c)(e:∀i,i∈M->i∈L\/a.heap.size<=i):ae L a c:=
 ⟨k.os.trans h.os,k.tape.trans h.tape,k.output.trans h.output,zF h.size k.size,fun i hi d=>
  (k.block i (zT hi h.size) (fun j=>by rcases e i j with h1|h1;exact d h1;omega)).trans (h.block i hi d)⟩
theorem ae.trans {L:List Nat}{a b c:World}(h:ae L a b)(k:ae L b c):ae L a c:=h.trans' k fun _ hi=> .inl hi
theorem ae.mono {L M:List Nat}{w w':World}(h:ae L w w')(d:∀i,i∈L->i∈M):ae M w w':=⟨h.os,h.tape,h.output,h.size,fun k e b=>h.block k e (fun c=>b (d k c))⟩
theorem ae.drew {L:List Nat}{a w:World}(h:ae L a w):ae L a w.drew:=⟨h.os,h.tape,h.output,h.size,h.block⟩
theorem ae.drewN {L:List Nat}{a w:World}(h:ae L a w)(n:Nat):ae L a (w.drewN n):=⟨h.os,h.tape,h.output,h.size,h.block⟩
theorem ae.alloc {L:List Nat}{a w:World}(h:ae L a w)(o:Obj):ae L a (w.alloc o):=
 ⟨h.os,h.tape,h.output,zF h.size (by simp),fun k b c=>(ZE w o k (zT b h.size)).trans (h.block k b c)⟩
theorem ae.setCell {L:List Nat}{a w:World}(h:ae L a w){p:Addr}(b:p.block∈L\/a.heap.size<=p.block)(u:Value):ae L a (w.setCell p u):=
 ⟨h.os,h.tape,h.output,by simpa[World.setCell]using h.size,fun k d c=>(zQ w p u k (by
  rintro rfl;rcases b with b|b
  ·exact c b
  omega)).trans (h.block k d c)⟩
theorem ae.put {L:List Nat}{a w:World}{p:Addr}(b:p.block∈L\/a.heap.size<=p.block)(h:ae L a w)(u:Value):ae L a (w.setCell p u):=h.setCell b u
theorem ae.dR {w w':World}{row:Option Nat}(h:w.grownBy w' row):ae row.toList w w':=
 ⟨h.os,h.tape,h.output,h.size,fun k c b=>h.block k c (fun e=>b (by simp[<-e]))⟩
theorem ae.grown {L:List Nat}{a w w':World}{row:Option Nat}(h:ae L a w)(c:w.grownBy w' row)(b:∀k,row=some k->k∈L\/a.heap.size<=k):ae L a w':=
 h.trans' (ae.dR c) fun i hi=>b i (by simpa using hi)
theorem ae.ah {B:Nat}{w w':World}(h:Below B w w')(b:w.heap.size<=B):ae [] w w':=⟨h.os,h.tape,h.output,h.size,fun k c _=>h.block k (by omega)⟩
theorem ae.below {L:List Nat}{w w':World}(h:ae L w w'){B:Nat}(c:B<=w.heap.size)(b:∀i,i∈L->B<=i):Below B w w':=
 ⟨h.os,h.tape,h.output,h.size,fun k d=>h.block k (by omega) (fun hi=>by have:=b k hi;omega)⟩
theorem ae.cell {L:List Nat}{w w':World}(h:ae L w w'){p:Addr}(c:p.block<w.heap.size)(b:p.block∉L):w'.cell? p=w.cell? p:=zD (h.block _ c b)
theorem ae.frozen {L:List Nat}{w w':World}(h:ae L w w'){p:Addr}(c:p.block<w.heap.size)(b:p.block∉L):w'.frozen? p=w.frozen? p:=World.frozen?_of_block (h.block _ c b)
theorem af.only {L:List Nat}{w w':World}{g:Nat}{t:TypeId}{b:Array Value}(h:af w g t b)(d:ae L w w')(c:g∉L):af w' g t b:=(d.block g h.lt c).trans h
theorem ae.own {L:List Nat}{w w':World}(h:ae L w w'){base:Nat}{e:TypeId}{size:Nat}{v:Value}{n:Nat}{xs:List Value}(i:w.ownsRow base e size v n xs)
 (c:∀g,v.ownBlock=some g->g∉L):w'.ownsRow base e size v n xs:=by
 obtain⟨d,b⟩:=i;refine⟨d, ?_⟩;rcases b with b|⟨g,cap,cur,hv,hg,hh,r⟩
 ·exact Or.inl b
 subst hv;exact Or.inr ⟨g,cap,cur,rfl,hg,(h.block g (yG hh) (c g rfl)).trans hh,r⟩
def cb (l:List UInt8):List Value:=l.map fun b=> .int .u8 b.toNat
theorem bs (l:List UInt8):(cb l).length=l.length:=List.length_map ..
theorem gC (l m:List UInt8):cb (l++m)=cb l++cb m:=Yl ..
theorem ET (l:List UInt8)(j:Nat):(cb l)[j]?=(l[j]?).map fun b=> .int .u8 b.toNat:=xS ..
theorem ve (l:List UInt8):∀u∈cb l,u.oneCell'=true:=by
 intro u hu;simp only[cb,xD]at hu;obtain⟨b,_,rfl⟩:=hu;rfl
theorem Tp (l:List UInt8)(k:Nat):cb (l.drop k)=(cb l).drop k:=by simp[cb]
theorem Tq (l:List UInt8)(k:Nat):cb (l.take k)=(cb l).take k:=by simp[cb]
theorem dD {w:World}{base:Nat}{e t:TypeId}{size n cap g h:Nat}{xs:List Value}{i:Array Value}(l:w.ownsRow base e size (.slice (some ⟨h,0,none⟩) n cap) n xs)(c:af w g t i)(d:e≠t):h≠g:=by
 rintro rfl;rcases l.2 with⟨k,_⟩|⟨m,o,p,b,_,j,_⟩
 ·cases k
 injection b with b;injection b with b;injection b with b;subst b;unfold af at c;rw[j]at c;injection c with c;injection c with _ ht;exact d ht
theorem rK {w:World}{base:Nat}{e:TypeId}{size n cap h:Nat}{xs:List Value}(l:w.ownsRow base e size (.slice (some ⟨h,0,none⟩) n cap) n xs):n<=cap/\cap<=9223372036854775807/\base<=h/\h<w.heap.size:=by
 rcases l.2 with⟨k,_⟩|⟨m,o,p,b,c,i,j,d,_⟩
 ·cases k
 injection b with b kI Ex;injection b with b;injection b with b;subst b;subst Ex;exact⟨j,by simpa[maxLen]using d,c,yG i⟩
theorem qi {w:World}{base:Nat}{e:TypeId}{size n:Nat}{v:Value}{xs:List Value}(j:w.ownsRow base e size v n xs)(b:v≠ .slice none 0 0):∃h cap,v= .slice (some ⟨h,0,none⟩) n cap:=by
 rcases j.2 with⟨i,_⟩|⟨c,d,k,b,_⟩
 ·exact absurd i b
 exact⟨c,d,b⟩
theorem H' (l:List UInt8)(s:ByteArray):(l.map fun b=>(b.toNat:Int)).foldl (fun r n=>r.push (UInt8.ofNat n.toNat)) s=⟨(s.data.toList++l).toArray⟩:=by
 induction l generalizing s with
 |nil=>cases s;simp
 |cons b t ih=>
  rw[List.map_cons,List.foldl_cons,ih];congr 1
  simp[ByteArray.push]
theorem C0 {P:Program}(w:World)(src dst e:TypeId)(i:P.underlying src=some (.slice e))(d:P.underlying e=some (.int .u8))(hd:P.underlying dst=some .string)(a:Addr)(cap:Nat)(l:List UInt8)
 (h:∀j u,(cb l)[j]?=some u->w.cell? (a.add j)=some u):(convert src dst (.slice (some a) l.length cap)).run P w= .ok (.string ⟨l.toArray⟩) w:=by
 rw[Z6 w src dst e (some a) l.length cap i d hd];have k:cb l=(l.map fun b=>(b.toNat:Int)).map (Value.int .u8):=by simp[cb]
 have c:=run_loadCells_list (P:=P) (w:=w) a (cb l) h;rw[bs,k]at c;rw[run_bytesToString w a l.length cap _ c,H'];simp
theorem sO {P:Program}{w:World}{src dst e:TypeId}(d:P.underlying src=some (.slice e))(b:P.underlying e=some (.int .u8))(hd:P.underlying dst=some .string){base h cap:Nat}{l:List UInt8}
 (c:w.ownsRow base e 1 (.slice (some ⟨h,0,none⟩) l.length cap) l.length (cb l)):(convert src dst (.slice (some ⟨h,0,none⟩) l.length cap)).run P w= .ok (.string ⟨l.toArray⟩) w:=
 C0 w src dst e d b hd _ cap l (c.cells rfl)
theorem _root_.Go.RowKit.Below.agA {B:Nat}{a w:World}(b:B<=w.heap.size)(h:Below B a w)(o:Obj):Below B a (w.alloc o):=h.alloc b o
theorem _root_.Go.RowKit.Below.bG {B:Nat}{a w:World}(h:Below B a w)(n:Nat):Below B a (w.drewN n):=⟨h.os,h.tape,h.output,h.size,h.block⟩
theorem _root_.Go.World.ownsRow.bG {w:World}{base:Nat}{e:TypeId}{size:Nat}{v:Value}{n:Nat}{xs:List Value}(h:w.ownsRow base e size v n xs)(k:Nat):(w.drewN k).ownsRow base e size v n xs:=h
theorem sP {w:World}{g i:Nat}{v:Value}(e:g<w.heap.size)(h:w.cell? ⟨g,i,none⟩=some v)(d c b:Obj):(((w.alloc d).alloc c).alloc b).cell? ⟨g,i,none⟩=some v:=by
 rw[zz _ _ _ (by simp;omega),zz _ _ _ (by simp;omega),zz _ _ _ (by simpa using e)];exact h
theorem C1 {w:World}{g i:Nat}(e:g<w.heap.size)(h:w.frozen? ⟨g,i,none⟩=false)(d c b:Obj):(((w.alloc d).alloc c).alloc b).frozen? ⟨g,i,none⟩=false:=by
 rw[(((((ae.refl [] w).alloc d).alloc c).alloc b)).frozen e (by simp)];exact h
theorem og {a b:ByteArray}(h:b=a):Ending.returned (.string a)= .returned (.string b):=by rw[h]
def strOf :Value->Nat
 | .string y=>y.size
 |_=>0
@[simp] theorem Tr (y:ByteArray):strOf (.string y)=y.size:=rfl
theorem aY {a b:Bool}(h:b=a):Ending.returned (.bool a)= .returned (.bool b):=by rw[h]
theorem lU {k:IntKind}{a b:Int}(h:a=b):Ending.returned (.int k a)= .returned (.int k b):=by rw[h]
class gb (B:Nat) (w w':World):Prop where
 out:Below B w w'
 le:B<=w'.heap.size
instance gb.refl (w:World):gb w.heap.size w w:=⟨zl _ _,zd _⟩
instance gb.alloc {B:Nat}{w w':World} [h:gb B w w'](o:Obj):gb B w (w'.alloc o):=⟨h.out.alloc h.le o,zF h.le (by simp)⟩
instance gb.drew {B:Nat}{w w':World} [h:gb B w w']:gb B w w'.drew:=⟨h.out.drew,h.le⟩
instance gb.drewN {B:Nat}{w w':World} [h:gb B w w'](n:Nat):gb B w (w'.drewN n):=⟨h.out.bG n,h.le⟩
theorem bQ {B:Nat}{w w':World} [h:gb B w w']:Below B w w':=h.out
theorem blm {B:Nat}{w w':World}(b:B<=w.heap.size) [h:gb w.heap.size w w']:Below B w w':=h.out.mono b
theorem _root_.Go.RowKit.Below.up {w b w':World}(h:Below w.heap.size w b) [g:gb b.heap.size b w']:Below w.heap.size w w':=h.trans (g.out.mono h.size)
theorem _root_.Go.RowKit.Below.up' {B:Nat}{w b w':World}(h:Below B w b)(c:B<=b.heap.size) [g:gb b.heap.size b w']:Below B w w':=h.trans (g.out.mono c)
class Mn (g:Nat) (L:List Nat):Prop where
 out:g∈L
instance Mn.here (g:Nat)(L:List Nat):Mn g (g::L):=⟨by simp⟩
instance Mn.there {g:Nat}{L:List Nat} [h:Mn g L](k:Nat):Mn g (k::L):=⟨by simp[h.out]⟩
class dS (L:List Nat) (a w:World):Prop where
 out:ae L a w
instance dS.refl (L:List Nat)(w:World):dS L w w:=⟨ae.refl L w⟩
instance dS.alloc {L:List Nat}{a w:World} [h:dS L a w](o:Obj):dS L a (w.alloc o):=⟨h.out.alloc o⟩
instance dS.drew {L:List Nat}{a w:World} [h:dS L a w]:dS L a w.drew:=⟨h.out.drew⟩
instance dS.drewN {L:List Nat}{a w:World} [h:dS L a w](n:Nat):dS L a (w.drewN n):=⟨h.out.drewN n⟩
instance dS.put {L:List Nat}{a w:World}{g:Nat} [h:dS L a w] [m:Mn g L](i:Nat)(n:Option Nat)(u:Value):dS L a (w.setCell ⟨g,i,n⟩ u):=⟨h.out.setCell (.inl m.out) u⟩
instance dS.amC {L:List Nat}{a w:World} [h:dS L a w](i:Nat)(n:Option Nat)(u:Value):dS L a (w.setCell ⟨a.heap.size,i,n⟩ u):=⟨h.out.setCell (.inr (zd _)) u⟩
instance dS.amD {L:List Nat}{a w:World} [h:dS L a w](i:Nat)(n:Option Nat)(u:Value):dS L a (w.setCell ⟨a.heap.size+1,i,n⟩ u):=⟨h.out.setCell (.inr (by simp)) u⟩
instance dS.amE {L:List Nat}{a w:World} [h:dS L a w](i:Nat)(n:Option Nat)(u:Value):dS L a (w.setCell ⟨a.heap.size+1+1,i,n⟩ u):=⟨h.out.setCell (.inr (by simp;omega)) u⟩
theorem C2 {L:List Nat}{a w:World} [h:dS L a w]:ae L a w:=h.out
theorem ae.up {L:List Nat}{a w w':World}(h:ae L a w) [g:dS L w w']:ae L a w':=h.trans g.out
def ub (n:Int):UInt8:=UInt8.ofNat n.toNat
theorem bn (n:Nat)(h:n<256):(ub n).toNat=n:=by
 simp[ub];omega
theorem EU {P:Program}{src dst e:TypeId}(i:P.underlying src=some (.slice e))(d:P.underlying e=some (.int .u8))(hd:P.underlying dst=some .string)(w:World)(xs:List Int)(cap:Nat):
 (convert src dst (.slice (some ⟨w.heap.size,0,none⟩) xs.length cap)).run P (w.alloc (.cells (xs.map (Value.int .u8)).toArray e))= .ok (.string ⟨(xs.map ub).toArray⟩) (w.alloc (.cells (xs.map (Value.int .u8)).toArray e)):=by
 rw[Z6 _ src dst e _ xs.length cap i d hd];have c:=run_loadCells_list (P:=P) (w:=w.alloc (.cells (xs.map (Value.int .u8)).toArray e)) ⟨w.heap.size,0,none⟩ (xs.map (Value.int .u8)) (by
  intro j v k;have:=ZM (yM w (.cells (xs.map (Value.int .u8)).toArray e)) j v (by simpa using k);exact this)
 rw[List.length_map]at c;rw[run_bytesToString _ _ _ cap xs c];have h:∀(l:List Int) (s:ByteArray),l.foldl (fun r n=>r.push (UInt8.ofNat n.toNat)) s=⟨(s.data.toList++l.map ub).toArray⟩:=by
  intro l;induction l with
  |nil=>intro s;cases s;simp
  |cons b t ih=>
   intro s;rw[List.foldl_cons,ih];congr 1
   simp[ByteArray.push,ub]
 rw[h];simp
section
variable {P:Program} {src dst e:TypeId} (hs:P.underlying src=some (.slice e)) (he:P.underlying e=some (.int .u8)) (hd:P.underlying dst=some .string)
include hs he hd
theorem ni (w:World)(a:Int):(convert src dst (.slice (some ⟨w.heap.size,0,none⟩) 1 1)).run P (w.alloc (.cells #[.int .u8 a] e))= .ok (.string ⟨#[ub a]⟩) (w.alloc (.cells #[.int .u8 a] e)):=EU hs he hd w [a] 1
end
structure Kept (E:TypeId)(base:Nat)(w w':World):Prop where
 below:Below base w w'
 other:∀(k:Nat) (o:Obj),w.heap[k]?=some o->(∀cs fr,o≠Obj.cells cs E fr)->w'.heap[k]?=some o
theorem Kept.refl (E:TypeId)(base:Nat)(w:World):Kept E base w w:=⟨zl _ _,fun _ _ h _=>h⟩
theorem Kept.trans {E:TypeId}{base:Nat}{a b c:World}(h:Kept E base a b)(k:Kept E base b c):Kept E base a c:=
 ⟨h.below.trans k.below,fun i o hi d=>k.other i o (h.other i o hi d) d⟩
theorem Kept.ah {E:TypeId}{base B:Nat}{a b:World}(h:Below B a b)(d:a.heap.size<=B)(c:base<=a.heap.size):Kept E base a b:=
 ⟨h.mono (by omega),fun i o hi _=>(h.block i (by
  have:=(yd.1 hi).1;omega)).trans hi⟩
theorem Kept.alloc {E:TypeId}{base:Nat}{a w:World}(h:Kept E base a w)(b:base<=w.heap.size)(o:Obj):Kept E base a (w.alloc o):=
 h.trans (Kept.ah ((zl w.heap.size w).alloc (zd _) o) (zd _) b)
theorem Kept.drew {E:TypeId}{base:Nat}{a w:World}(h:Kept E base a w):Kept E base a w.drew:=⟨h.below.drew,h.other⟩
theorem Kept.size {E:TypeId}{base:Nat}{a w:World}(h:Kept E base a w):a.heap.size<=w.heap.size:=h.below.size
theorem Kept.mono {E:TypeId}{base b:Nat}{a w:World}(h:Kept E base a w)(c:b<=base):Kept E b a w:=⟨h.below.mono c,h.other⟩
def bL (w:World)(base:Nat)(E:TypeId)(v:Value)(l:List UInt8):Prop:=
 ∃A cap,v= .slice A l.length cap/\l.length<=cap/\cap<=9223372036854775807/\
  ((A=none/\cap=0)\/∃g cur fr,A=some ⟨g,0,none⟩/\base<=g/\w.heap[g]?=some (.cells cur E fr)/\cur.size=cap/\cur.toList.take l.length=cb l/\(fr.2=0\/cap<=fr.1))
theorem bL.nil (w:World)(base:Nat)(E:TypeId):bL w base E (.slice none 0 0) []:=⟨none,0,rfl,by simp,by simp,.inl ⟨rfl,rfl⟩⟩
theorem bL.form {w:World}{base:Nat}{E:TypeId}{v:Value}{l:List UInt8}(h:bL w base E v l):∃A cap,v= .slice A l.length cap/\l.length<=cap/\cap<=9223372036854775807:=by
 obtain⟨A,cap,c,b,d,_⟩:=h;exact⟨A,cap,c,b,d⟩
theorem bL.of_heap {w w':World}{base:Nat}{E:TypeId}{v:Value}{l:List UInt8}(h:bL w base E v l)(c:∀k,base<=k->k<w.heap.size->w'.heap[k]?=w.heap[k]?):bL w' base E v l:=by
 obtain⟨A,cap,e,d,i,b⟩:=h;refine⟨A,cap,e,d,i, ?_⟩;rcases b with b|⟨g,cur,fr,hA,hg,hh,r⟩
 ·exact .inl b
 exact .inr ⟨g,cur,fr,hA,hg,(c g hg (yd.1 hh).1).trans hh,r⟩
theorem bL.below {w w':World}{base:Nat}{E:TypeId}{v:Value}{l:List UInt8}(h:bL w base E v l)(b:Below w.heap.size w w'):bL w' base E v l:=h.of_heap fun k _ c=>b.block k c
theorem bL.alloc {w:World}{base:Nat}{E:TypeId}{v:Value}{l:List UInt8}(h:bL w base E v l)(o:Obj):bL (w.alloc o) base E v l:=h.below ((zl _ _).alloc (zd _) o)
theorem bL.drew {w:World}{base:Nat}{E:TypeId}{v:Value}{l:List UInt8}(h:bL w base E v l):bL w.drew base E v l:=h
theorem bL.mono {w:World}{base c:Nat}{E:TypeId}{v:Value}{l:List UInt8}(h:bL w base E v l)(j:c<=base):bL w c E v l:=by
 obtain⟨A,cap,e,d,i,b⟩:=h;refine⟨A,cap,e,d,i, ?_⟩;rcases b with b|⟨g,cur,fr,hA,hg,r⟩
 ·exact .inl b
 exact .inr ⟨g,cur,fr,hA,by omega,r⟩
theorem bL.only {w w':World}{base:Nat}{E:TypeId}{v:Value}{l:List UInt8}{L:List Nat}(h:bL w base E v l)(i:ae L w w')(j:∀g,g∈L->g<base\/∃d t c,w.heap[g]?=some (.cells d t c)/\t≠E):bL w' base E v l:=by
 obtain⟨A,cap,k,e,n,b⟩:=h;refine⟨A,cap,k,e,n, ?_⟩;rcases b with b|⟨g,cur,c,hA,hg,hh,r⟩
 ·exact .inl b
 refine .inr ⟨g,cur,c,hA,hg,(i.block g (yd.1 hh).1 fun m=> ?_).trans hh,r⟩;rcases j g m with h5|⟨d,t,fr',h5,h6⟩
 ·omega
 rw[hh]at h5;injection h5 with h5;injection h5 with _ h7;exact h6 h7.symm
theorem bL.own {w:World}{base:Nat}{E:TypeId}{v:Value}{l:List UInt8}(h:w.ownsRow base E 1 v l.length (cb l)):bL w base E v l:=by
 obtain⟨p,b⟩:=h;rcases b with⟨b,o⟩|⟨g,cap,m,n,i,j,k,e,d,c⟩
 ·refine⟨none,0,by rw[b,o],by omega,by simp,.inl ⟨rfl,rfl⟩⟩
 exact⟨some ⟨g,0,none⟩,cap,n,k,by simpa[maxLen]using e,.inr ⟨g,m,(0,0),rfl,i,j,by simpa using d,by simpa using c,.inl rfl⟩⟩
theorem eJ {w:World}{g i:Nat}{d:Array Value}{E:TypeId}{b:Nat×Nat}(c:w.heap[g]?=some (.cells d E b))(e:b.2=0\/i<b.1):w.frozen? ⟨g,i,none⟩=false:=by
 obtain⟨lo,hi⟩:=b;simp[World.frozen?,c];simp at e;omega
theorem bL.cells {w:World}{base:Nat}{E:TypeId}{A:Option Addr}{cap:Nat}{l:List UInt8}(h:bL w base E (.slice A l.length cap) l):∀a,A=some a->∀j u,(cb l)[j]?=some u->w.cell? (a.add j)=some u:=by
 obtain⟨o,s,k,r,z,d⟩:=h;injection k with c _ hc;subst c;subst hc;intro a b j u hu;rcases d with⟨d,_⟩|⟨g,y,B,c,x,i,p,e,q⟩
 ·rw[d]at b;cases b
 rw[c]at b;injection b with b;subst b;have m:(⟨g,0,none⟩:Addr).add j=⟨g,j,none⟩:=by unfold Addr.add;split<;>simp_all
 have n:j<l.length:=by have:=(xx.1 hu).1;rwa [bs]at this
 rw[m];simp only[World.cell?,i];rw[<-e,yA n]at hu;simpa using hu
theorem bL.str {P:Program}{w:World}{src dst e:TypeId}(i:P.underlying src=some (.slice e))(d:P.underlying e=some (.int .u8))(hd:P.underlying dst=some .string){base cap:Nat}{E:TypeId}{A:Option Addr}{l:List UInt8}
 (h:bL w base E (.slice A l.length cap) l):(convert src dst (.slice A l.length cap)).run P w= .ok (.string ⟨l.toArray⟩) w:=by
 cases A with
 |none=>
  obtain⟨m,o,k,n,q,c⟩:=h;injection k with b _ hc;subst b;subst hc;rcases c with⟨_,c⟩|⟨g,p,r,b,_⟩
  ·subst c;have j:l= []:=zo (by omega);subst j;rw[Z6 w src dst e none _ 0 i d hd];rfl
  cases b
 |some a=>exact C0 w src dst e i d hd a cap l (h.cells a rfl)
theorem bL.len {w:World}{base:Nat}{E:TypeId}{A:Option Addr}{n cap:Nat}{l:List UInt8}(h:bL w base E (.slice A n cap) l):n=l.length/\n<=cap/\cap<=9223372036854775807:=by
 obtain⟨e,i,c,b,d,_⟩:=h;injection c with hA hn hc;subst hc;subst hn;exact⟨rfl,b,d⟩
theorem bL.EV {P:Program}{w:World}{src dst e:TypeId}(d:P.underlying src=some (.slice e))(c:P.underlying e=some (.int .u8))(hd:P.underlying dst=some .string){base n cap:Nat}{E:TypeId}{A:Option Addr}{l:List UInt8}
 (h:bL w base E (.slice A n cap) l):(convert src dst (.slice A n cap)).run P w= .ok (.string ⟨l.toArray⟩) w:=by
 obtain⟨b,_⟩:=h.len;subst b;exact h.str d c hd
theorem bL.conv (w:World)(base:Nat)(E:TypeId)(s:ByteArray)(b:base<=w.heap.size)(d:s.size<=9223372036854775807):bL (Lib.bytesWorld w E s) base E (.slice (some ⟨w.heap.size,0,none⟩) s.size (grownCap w s.size 0 E)) s.data.toList:=by
 have e:=grownCap_ge w s.size 0 E;have c:=ZS w s.size 0 E (by simpa[maxLen]using d);have hz:(Lib.bytesCells w E s).size=grownCap w s.size 0 E:=by simp[Lib.bytesCells];omega
 refine⟨_,_,by rw[aa],by rw[aa];exact e,by simpa[maxLen]using c,.inr ⟨w.heap.size,Lib.bytesCells w E s,_,rfl,b,Lib.bytesWorld_at_new w E s,hz, ?_,.inr (by rw[hz];exact zd _)⟩⟩;simp[Lib.bytesCells,cb]
theorem js {w:World}{g o:Nat}{b:Array Value}{E:TypeId}{c:Nat×Nat}(v:Value)(h:w.heap[g]?=some (.cells b E c)):(w.setCell ⟨g,o,none⟩ v).heap[g]?=some (.cells (b.setIfInBounds o v) E c):=by
 simp[World.setCell,ZA,h]
theorem iE {g:Nat}{E:TypeId}{i:Nat×Nat}:∀(c:List Value) (o:Nat) (w:World) (b:Array Value),w.heap[g]?=some (.cells b E i)->o+c.length<=b.size->
 ∃d,(w.setCells g o c).heap[g]?=some (.cells d E i)/\d.size=b.size/\d.toList.take (o+c.length)=b.toList.take o++c
 | [],o,w,b,h,_=>⟨b,h,rfl,by simp⟩
 |v::c,o,w,b,h,hl=>by
  simp only[zw]at hl;obtain⟨d,k,j,l⟩:=iE c (o+1) (w.setCell ⟨g,o,none⟩ v) (b.setIfInBounds o v) (js v h) (by simp;omega);refine⟨d,k,by simpa using j, ?_⟩;rw[zw,show o+(c.length+1)=o+1+c.length from by omega,l];have e:(b.setIfInBounds o v).toList.take (o+1)=b.toList.take o++ [v]:=by
   rw[ZX,yr (by simp;omega),List.getElem_set_self,List.take_set_of_le (zd _)]
  rw[e,zB];rfl
theorem iF (w:World)(g o:Nat)(b:List Value):(w.setCells g o b).heap.size=w.heap.size:=by
 induction b generalizing w o with
 |nil=>rfl
 |cons v b ih=>rw[World.setCells,ih];simp[World.setCell]
theorem kL (w:World)(g o:Nat)(b:List Value):(w.setCells g o b).tape=w.tape:=by
 induction b generalizing w o with
 |nil=>rfl
 |cons v b ih=>rw[World.setCells,ih];rfl
theorem oQ {w:World}{base g o:Nat}{E:TypeId}{i:Array Value}{l:Nat×Nat}(h:w.heap[g]?=some (.cells i E l))(m:base<=g)(c:List Value):Kept E base w (w.setCells g o c):=by
 have d:∀k,k≠g->(w.setCells g o c).heap[k]?=w.heap[k]?:=by
  intro k b;by_cases j:k<w.heap.size
  ·exact ZY w g o c j b
  rw[xQ (by rw[iF];omega),xQ (by omega)]
 refine⟨⟨World.os_setCells w g o c,kL w g o c,Yn w g o c,by rw[iF];exact zd _,fun k b=>d k (by omega)⟩,fun k n b e=> ?_⟩;rw[d k (by rintro rfl;rw[h]at b;injection b with b;exact e _ _ b.symm)];exact b
theorem bL.at_ {w:World}{base:Nat}{E:TypeId}{g n cap k:Nat}{l:List UInt8}(h:bL w base E (.slice (some ⟨g,0,none⟩) n cap) l)(c:k<l.length):w.cell? ⟨g,k,none⟩=some (.int .u8 (l.getD k 0).toNat)/\w.frozen? ⟨g,k,none⟩=false/\base<=g/\g<w.heap.size:=by
 obtain⟨q,x,p,s,z,e⟩:=h;injection p with b hn hc;subst b;subst hc;subst hn;rcases e with⟨e,_⟩|⟨u,y,A,b,o,d,r,j,m⟩
 ·cases e
 injection b with b;injection b with b;subst b;refine⟨?_,eJ d (by rcases m with h|h;exact .inl h;exact .inr (by omega)),o,(yd.1 d).1⟩;have i:(cb l)[k]?=some (.int .u8 (l.getD k 0).toNat):=by rw[ET,zA c,zv,zA c];rfl
 rw[<-j,yA c]at i;simp only[World.cell?,d];simpa using i
theorem bL.set {w:World}{base:Nat}{E:TypeId}{g n cap k:Nat}{l:List UInt8}(h:bL w base E (.slice (some ⟨g,0,none⟩) n cap) l)(x:k<l.length)(b:UInt8):bL (w.setCell ⟨g,k,none⟩ (.int .u8 b.toNat)) base E (.slice (some ⟨g,0,none⟩) n cap) (l.set k b):=by
 obtain⟨u,z,q,m,r,d⟩:=h;injection q with c hn hc;subst c;subst hc;subst hn;rcases d with⟨d,_⟩|⟨y,A,s,c,o,p,i,e,j⟩
 ·cases d
 injection c with c;injection c with c;subst c;refine⟨_,cap,by rw[Zg],by rw[Zg];exact m,r,.inr ⟨g,_,s,rfl,o,js _ p,by simpa using i, ?_,j⟩⟩;rw[Zg,ZX,List.take_set,e];simp[cb,List.map_set]
theorem Kept.store {E:TypeId}{base g k:Nat}{a w:World}{d:Array Value}{c:Nat×Nat}(h:Kept E base a w)(b:w.heap[g]?=some (.cells d E c))(e:base<=g)(v:Value):Kept E base a (w.setCell ⟨g,k,none⟩ v):=
 h.trans (oQ (o:=k) b e [v])
theorem bL.block {w:World}{base:Nat}{E:TypeId}{g n cap:Nat}{l:List UInt8}(h:bL w base E (.slice (some ⟨g,0,none⟩) n cap) l):∃c e,w.heap[g]?=some (.cells c E e)/\base<=g:=by
 obtain⟨m,u,k,r,x,d⟩:=h;injection k with b _ hc;subst b;rcases d with⟨d,_⟩|⟨s,c,e,b,i,j,p,o,q⟩
 ·cases d
 injection b with b;injection b with b;subst b;exact⟨c,e,j,i⟩
theorem vf (n:Nat):(madeCells (Value.int .u8 0).cells (n*1)).toList=cb (List.replicate n 0):=by
 have b:(Value.int .u8 0).cells= #[.int .u8 0]:=rfl;rw[b,xW];apply List.ext_getElem
 ·simp[madeCells,cb]
 intro i c d;simp[madeCells,cb,Nat.mod_one]
theorem bL.append {P:Program}{w:World}{base:Nat}{E:TypeId}{v:Value}{l:List UInt8}(h:bL w base E v l)(t c ty:TypeId)(i:TypeInfo)(y:P.underlying t=some (.slice E))(hi:P.info? E=some i)(hz:i.zero=some (.int .u8 0))(k:i.size=1)(U:i.bytes=1)
 (e:Value) (m:List UInt8) (S:Src P 1 c e m.length (cb m) w) (F:base<=w.heap.size) (Y:l.length+m.length<=140737488355328):
 ∃I w',(Builtin.append_ #[t,c] ty #[v,e]).run P w= .ok I w'/\bL w' base E I (l++m)/\Kept E base w w':=by
 obtain⟨A,cap,rfl,M,J,D⟩:=h;have C:Src P i.size c e m.length (cb m) w:=by rw[k];exact S
 by_cases G:l.length+m.length<=cap
 ·rcases D with⟨b,s⟩|⟨g,o,u,b,q,d,z,B,n⟩
  ·subst b;subst s;have r:l= []:=zo (by omega);have N:m= []:=zo (by omega);subst r;subst N;exact⟨_,w,Yo w t c ty E i y hi none 0 0 (zd _) e C,bL.nil w base E,Kept.refl E base w⟩
  subst b;have p:=run_append_room_src (P:=P) w t c ty E i y hi g 0 l.length cap e m.length (cb m) C G
   (by
    intro j x;rw[bs]at x;have:0+l.length*i.size+j<o.size:=by rw[k,z];omega
    simp only[World.cell?,d];rw[Z0 this];rfl)
   (by
    intro j x;rw[bs]at x;exact eJ d (by rw[k];rcases n with h|h;exact .inl h;exact .inr (by omega)))
  rw[k,xW,zM]at p;obtain⟨R,X,Z,H⟩:=iE (cb m) l.length w o d (by rw[bs];omega);refine⟨_,_,p,⟨_,cap,by rw[zj],by rw[zj];exact G,J,.inr ⟨g,R,u,rfl,q,X,by omega, ?_,n⟩⟩,oQ d q _⟩;rw[zj,gC];rw[bs,B]at H;exact H
 have L:(Builtin.firstCells i.size l.length (.slice A l.length cap)).run P w.drew= .ok (cb l).toArray w.drew:=by
  rcases D with⟨b,s⟩|⟨g,o,u,b,q,d,z,B,n⟩
  ·subst b;subst s;have r:l= []:=zo (by omega);subst r;exact run_firstCells_none w.drew i.size 0 0 0
  have K:=bL.cells (w:=w) (base:=base) (E:=E) (A:=A) (cap:=cap) (l:=l) ⟨A,cap,rfl,M,J,.inr ⟨g,o,u,b,q,d,z,B,n⟩⟩ ⟨g,0,none⟩ b;subst b;exact run_firstCells_some w.drew i.size l.length _ l.length cap (cb l) (by rw[bs,k,xW]) K
 have W:Builtin.nextslicecap (l.length+m.length) cap*i.bytes<=281474976710656:=by
  rw[U];exact growslice_fits (by omega) (by omega)
 have p:=run_append_grow_src (P:=P) w t c ty E i (.int .u8 0) y hi hz A l.length cap (cb l) L e m.length (cb m) C (by omega) (by omega) W;have O:=grownCap_ge w (l.length+m.length) cap E;have g2:=ZS w (l.length+m.length) cap E (by simp[maxLen];omega);refine⟨_,_,p,⟨_,_,by rw[zj],by rw[zj];exact O,by simpa[maxLen]using g2,.inr ⟨w.heap.size,_,(0,0),rfl,F,yM w.drew _, ?_, ?_,.inl rfl⟩⟩,((Kept.refl E base w).drew.alloc (by simpa using F) _)⟩
 ·simp only[Array.size_append,Z4,zj,bs,size_zeroCells];have:(Value.int .u8 0).cells.size=1:=rfl;rw[this];omega
 rw[Array.toList_append,zj,zX (by simp[bs]),gC];exact zy (by simp[bs])
theorem Kept.Kr {E:TypeId}{base:Nat}{w w':World}(h:w.grownBy w' none)(c:base<=w.heap.size):Kept E base w w':=
 ⟨⟨h.os,h.tape,h.output,h.size,fun k b=>h.block k (by omega) (by simp)⟩,fun k o b _=>(h.block k (yd.1 b).1 (by simp)).trans b⟩
theorem aT {P:Program}{w:World}{ops:Array Oper}{rest:List Oper}{o:Oper}{a:Act}{Q:Exit->Act->World->Prop}(A:o.guard=none)(s x:Operand)(t c:TypeId)
 (G:o.op= .call {callee:= .builtin .append,args:= #[s,x],argTypes:= #[t,c]}) (base:Nat) (E:TypeId) (i:TypeInfo) (B:P.underlying t=some (.slice E)) (hi:P.info? E=some i) (hz:i.zero=some (.int .u8 0)) (F:i.size=1) (y:i.bytes=1)
 {v:Value} {l:List UInt8} (p:a.eval s=v) (h:bL w base E v l) (d:Value) (m:List UInt8) (hx:a.eval x=d) (u:Src P 1 c d m.length (cb m) w) (q:base<=w.heap.size) (r:l.length+m.length<=140737488355328)
 (z:∀(b:Option Addr) (j e:Nat) w',bL w' base E (.slice b j e) (l++m)->Kept E base w w'->wpList P ops Q rest (a.put o.dst (.slice b j e)) w'):wpList P ops Q (o::rest) a w:=by
 refine wpList_plain A fun K n=> ?_
 obtain⟨I,w',D,k,H⟩:=h.append (P:=P) t c o.type i B hi hz F y d m u q r;obtain⟨b,e,C,_⟩:=k.form;unfold Oper.wp;simp[execOp,G,resolve,invoke,builtin,p,hx,D,Result.andThen];subst C;exact n _ _ (z _ _ _ w' k H)
theorem kr {P:Program}{d i:TypeId}(h:P.underlying d=some (.slice i))(w:World)(E:TypeId)(b:Array Value)(m:List UInt8)(c:Nat)(e:b.toList=cb m):Src P 1 d (.slice (some ⟨w.heap.size,0,none⟩) m.length c) m.length (cb m) (w.alloc (.cells b E)):=
 Src.ofSlice _ h _ _ _ _ (by rw[bs,xW]) (fun j u hu=>ZM (yM w (.cells b E)) j u (by rw[<-e]at hu;simpa using hu)) (ve m)
theorem jt {P:Program}{b:TypeId}(c:P.underlying b=some .string)(w:World)(s:ByteArray):Src P 1 b (.string s) s.data.toList.length (cb s.data.toList) w:=by
 have:=Src.ofString (P:=P) w c s;rw[aa];exact this
theorem Ks {P:Program}{d j:TypeId}(e:P.underlying d=some (.slice j)){w:World}{base:Nat}{E:TypeId}{v:Value}{m:List UInt8}(h:bL w base E v m):Src P 1 d v m.length (cb m) w:=by
 obtain⟨A,cap,rfl,n,q⟩:=h.form;cases A with
 |none=>
  obtain⟨l,o,k,_,_,c⟩:=h;injection k with b _ hc;subst b;subst hc;rcases c with⟨_,c⟩|⟨g,p,r,b,_⟩
  ·subst c;have i:m= []:=zo (by omega);subst i;exact Src.ofNil w e 0
  cases b
 |some ad=>exact Src.ofSlice w e ad _ _ _ (by rw[bs,xW]) (h.cells ad rfl) (ve m)
theorem pc {a:Int}{x:Nat}(h:a=x)(hx:x<256):(#[Value.int .u8 a]:Array Value).toList=cb [ub x]:=by
 subst h;simp[cb,bn x hx]
theorem O5 {a b:Int}{x y:Nat}(h:a=x)(hx:x<256)(d:b=y)(c:y<256):(#[Value.int .u8 a,.int .u8 b]:Array Value).toList=cb [ub x,ub y]:=by
 subst h;subst d;simp[cb,bn x hx,bn y c]
theorem ug {P:Program}{d i:TypeId}(h:P.underlying d=some (.slice i))(w:World)(E:TypeId)(b:Array Value)(m:List UInt8)(c g:Nat)(j:g=w.heap.size)(e:b.toList=cb m):Src P 1 d (.slice (some ⟨g,0,none⟩) m.length c) m.length (cb m) (w.alloc (.cells b E)):=by
 subst j;exact kr h w E b m c e
theorem bL.bT {w:World}{base:Nat}{E:TypeId}{v:Value}{l:List UInt8}(h:bL w base E v l):∃A n cap,v= .slice A n cap/\Hid (n=l.length)/\n<=cap/\cap<=9223372036854775807:=by
 obtain⟨A,cap,c,b,d⟩:=h.form;exact⟨A,_,cap,c,za rfl,b,d⟩
theorem af.kept {E:TypeId}{base g:Nat}{w w':World}{t:TypeId}{b:Array Value}(h:af w g t b)(i:Kept E base w w')(d:t≠E):af w' g t b:=i.other g _ h (by
 intro c f e;injection e with _ e2;exact d e2)
theorem af.ag {w w':World}{g B:Nat}{t:TypeId}{b:Array Value}(h:af w g t b)(c:Below B w w')(d:g<B):af w' g t b:=(c.block g d).trans h
theorem bg {w:World}{g:Nat}{t:TypeId}{a b c:Value}(h:af w g t #[a,b,c]):w.cell? ⟨g,0,none⟩=some a/\w.cell? ⟨g,1,none⟩=some b/\w.cell? ⟨g,2,none⟩=some c/\w.frozen? ⟨g,0,none⟩=false/\w.frozen? ⟨g,1,none⟩=false/\w.frozen? ⟨g,2,none⟩=false:=
 ⟨h.cell 0,h.cell 1,h.cell 2,h.frozen 0,h.frozen 1,h.frozen 2⟩
structure mP (w w':World)(v v':Value):Prop where
 grown:w.grownBy w' v.ownBlock
 own:v'.ownBlock=v.ownBlock\/∃g,v'.ownBlock=some g/\w.heap.size<=g
theorem mP.refl (w:World)(v:Value):mP w w v v:=⟨World.grownBy.refl _ _,.inl rfl⟩
theorem mP.size {w w':World}{v v':Value}(h:mP w w' v v'):w.heap.size<=w'.heap.size:=h.grown.size
theorem mP.trans {a b c:World}{v l i:Value}(h:mP a b v l)(k:mP b c l i):mP a c v i:=by
 refine⟨h.grown.andThen k.grown fun j d=> ?_, ?_⟩
 ·rcases h.own with e|⟨g,e,hg⟩
  ·exact .inr (by rw[<-e,d])
  rw[e]at d;injection d with d;exact .inl (by omega)
 rcases k.own with e|⟨g,e,hg⟩
 ·rcases h.own with e2|⟨g2,e2,tM⟩
  ·exact .inl (e.trans e2)
  exact .inr ⟨g2,e.trans e2,tM⟩
 exact .inr ⟨g,e,by have:=h.size;omega⟩
theorem dx {a b:World}(h:Below a.heap.size a b):a.grownBy b none:=⟨h.os,h.tape,h.output,h.size,fun k c _=>h.block k c⟩
theorem kt {a b:World}(h:a.grownBy b none)(r:Option Nat):a.grownBy b r:=⟨h.os,h.tape,h.output,h.size,fun k c _=>h.block k c (by simp)⟩
theorem mP.ahead {a b c:World}{v d:Value}(h:Below a.heap.size a b)(k:mP b c v d):mP a c v d:=(show mP a b v v from⟨kt (dx h) _,.inl rfl⟩).trans k
theorem mP.behind {a b c:World}{v d:Value}(h:mP a b v d)(k:Below b.heap.size b c):mP a c v d:=h.trans (show mP b c d d from⟨kt (dx k) _,.inl rfl⟩)
theorem mP.below {B:Nat}{a b c:World}{v i:Value}(h:Below B a b)(k:mP b c v i)(d:B<=b.heap.size)(e:∀g,v.ownBlock=some g->B<=g):Below B a c:=h.grown k.grown d e
theorem mP.block {a b:World}{v d:Value}(h:mP a b v d){k:Nat}(i:k<a.heap.size)(c:v.ownBlock≠some k):b.heap[k]?=a.heap[k]?:=h.grown.block k i (fun e=>c e.symm)
theorem bL.ge {w:World}{base:Nat}{E:TypeId}{v:Value}{l:List UInt8}(h:bL w base E v l):∀g,v.ownBlock=some g->base<=g/\g<w.heap.size/\∃b d,w.heap[g]?=some (.cells b E d):=by
 obtain⟨A,cap,rfl,n,o,m⟩:=h;intro g e;rcases m with⟨c,_⟩|⟨k,b,d,c,j,i,_⟩
 ·subst c;cases e
 subst c;have:k=g:=by simpa[Value.ownBlock]using e
 subst this;exact⟨j,yG i,b,d,i⟩
theorem bL.dD {w:World}{base:Nat}{E t:TypeId}{v:Value}{l:List UInt8}{g:Nat}{d:Array Value}{j:Nat×Nat}(h:bL w base E v l)(i:w.heap[g]?=some (.cells d t j))(c:t≠E):v.ownBlock≠some g:=by
 intro e;obtain⟨_,_,m,k,b⟩:=h.ge g e;rw[i]at b;injection b with b;injection b with _ b;exact c b
theorem bL.ag {w w':World}{base:Nat}{E:TypeId}{v:Value}{l:List UInt8}(h:bL w base E v l)(e:∀k,k<w.heap.size->v.ownBlock=some k->w'.heap[k]?=w.heap[k]?):bL w' base E v l:=by
 obtain⟨A,cap,rfl,c,d,b⟩:=h;refine⟨A,cap,rfl,c,d, ?_⟩;rcases b with b|⟨g,cur,fr,hA,hg,hh,r⟩
 ·exact .inl b
 exact .inr ⟨g,cur,fr,hA,hg,(e g (yG hh) (by subst hA;rfl)).trans hh,r⟩
theorem af.Ts {w w':World}{g:Nat}{t:TypeId}{b:Array Value}{v e:Value}(h:af w g t b)(c:mP w w' v e)(d:v.ownBlock≠some g):af w' g t b:=(c.block h.lt d).trans h
theorem bL.Tt {P:Program}{w:World}{base:Nat}{E:TypeId}{v:Value}{l:List UInt8}(h:bL w base E v l)(t c ty:TypeId)(i:TypeInfo)(z:P.underlying t=some (.slice E))(hi:P.info? E=some i)(hz:i.zero=some (.int .u8 0))(o:i.size=1)(X:i.bytes=1)
 (d:Value) (m:List UInt8) (W:Src P 1 c d m.length (cb m) w) (S:base<=w.heap.size) (aa:l.length+m.length<=140737488355328):
 ∃B w',(Builtin.append_ #[t,c] ty #[v,d]).run P w= .ok B w'/\bL w' base E B (l++m)/\mP w w' v B:=by
 obtain⟨A,cap,rfl,N,K,H⟩:=h;have G:Src P i.size c d m.length (cb m) w:=by rw[o];exact W
 by_cases I:l.length+m.length<=cap
 ·rcases H with⟨b,u⟩|⟨g,q,x,b,D,n,C,F,p⟩
  ·subst b;subst u;have s:l= []:=zo (by omega);have O:m= []:=zo (by omega);subst s;subst O;exact⟨_,w,Yo w t c ty E i z hi none 0 0 (zd _) d G,bL.nil w base E,mP.refl _ _⟩
  subst b;have r:=run_append_room_src (P:=P) w t c ty E i z hi g 0 l.length cap d m.length (cb m) G I
   (by
    intro j y;rw[bs]at y;have:0+l.length*i.size+j<q.size:=by rw[o,C];omega
    simp only[World.cell?,n];rw[Z0 this];rfl)
   (by
    intro j y;rw[bs]at y;exact eJ n (by rw[o];rcases p with h|h;exact .inl h;exact .inr (by omega)))
  rw[o,xW,zM]at r;obtain⟨U,c1,c2,J⟩:=iE (cb m) l.length w q n (by rw[bs];omega);refine⟨_,_,r,⟨_,cap,by rw[zj],by rw[zj];exact I,K,.inr ⟨g,U,x,rfl,D,c1,by omega, ?_,p⟩⟩,⟨World.os_setCells _ _ _ _,kL _ _ _ _,Yn _ _ _ _,by rw[iF];exact zd _,fun k hk Z=>ZY w g l.length (cb m) hk (fun e=>Z (by subst e;rfl))⟩,.inl rfl⟩;rw[zj,gC];rw[bs,F]at J;exact J
 have M:(Builtin.firstCells i.size l.length (.slice A l.length cap)).run P w.drew= .ok (cb l).toArray w.drew:=by
  rcases H with⟨b,u⟩|⟨g,q,x,b,D,n,C,F,p⟩
  ·subst b;subst u;have s:l= []:=zo (by omega);subst s;exact run_firstCells_none w.drew i.size 0 0 0
  have L:=bL.cells (w:=w) (base:=base) (E:=E) (A:=A) (cap:=cap) (l:=l) ⟨A,cap,rfl,N,K,.inr ⟨g,q,x,b,D,n,C,F,p⟩⟩ ⟨g,0,none⟩ b;subst b;exact run_firstCells_some w.drew i.size l.length _ l.length cap (cb l) (by rw[bs,o,xW]) L
 have Y:Builtin.nextslicecap (l.length+m.length) cap*i.bytes<=281474976710656:=by
  rw[X];exact growslice_fits (by omega) (by omega)
 have r:=run_append_grow_src (P:=P) w t c ty E i (.int .u8 0) z hi hz A l.length cap (cb l) M d m.length (cb m) G (by omega) (by omega) Y;have R:=grownCap_ge w (l.length+m.length) cap E;have g2:=ZS w (l.length+m.length) cap E (by simp[maxLen];omega);refine⟨_,_,r,⟨_,_,by rw[zj],by rw[zj];exact R,by simpa[maxLen]using g2,.inr ⟨w.heap.size,_,(0,0),rfl,S,yM w.drew _, ?_, ?_,.inl rfl⟩⟩,kt (dx ((zl w.heap.size w).drew.alloc (by simp) _)) _,.inr ⟨w.heap.size,rfl,zd _⟩⟩
 ·simp only[Array.size_append,Z4,zj,bs,size_zeroCells];have:(Value.int .u8 0).cells.size=1:=rfl;rw[this];omega
 rw[Array.toList_append,zj,zX (by simp[bs]),gC];exact zy (by simp[bs])
theorem nk {P:Program}{w:World}{o:Oper}{a:Act}{K:Act->World->Prop}{Q:Exit->Act->World->Prop}(s x:Operand)(t d:TypeId)
 (D:o.op= .call {callee:= .builtin .append,args:= #[s,x],argTypes:= #[t,d]}) (base:Nat) (E:TypeId) (i:TypeInfo) (z:P.underlying t=some (.slice E)) (hi:P.info? E=some i) (hz:i.zero=some (.int .u8 0)) (C:i.size=1) (u:i.bytes=1)
 {v:Value} {l:List UInt8} (n:a.eval s=v) (h:bL w base E v l) (e:Value) (m:List UInt8) (hx:a.eval x=e) (r:Src P 1 d e m.length (cb m) w) (p:base<=w.heap.size) (q:l.length+m.length<=140737488355328)
 (y:∀(b:Option Addr) (j c:Nat) w',bL w' base E (.slice b j c) (l++m)->mP w w' v (.slice b j c)->K (a.put o.dst (.slice b j c)) w'):Oper.wp P o a w K Q:=by
 obtain⟨G,w',B,k,F⟩:=h.Tt (P:=P) t d o.type i z hi hz C u e m r p q;obtain⟨b,c,A,_⟩:=k.form;unfold Oper.wp;simp[execOp,D,resolve,invoke,builtin,n,hx,B,Result.andThen];subst A;exact y _ _ _ w' k F
theorem cx {P:Program}{w:World}{ops:Array Oper}{rest:List Oper}{o:Oper}{a:Act}{Q:Exit->Act->World->Prop}(z:o.guard=none)(s x:Operand)(t e:TypeId)
 (D:o.op= .call {callee:= .builtin .append,args:= #[s,x],argTypes:= #[t,e]}) (base:Nat) (E:TypeId) (i:TypeInfo) (A:P.underlying t=some (.slice E)) (hi:P.info? E=some i) (hz:i.zero=some (.int .u8 0)) (C:i.size=1) (u:i.bytes=1)
 {v:Value} {l:List UInt8} (n:a.eval s=v) (h:bL w base E v l) (j:Value) (m:List UInt8) (hx:a.eval x=j) (r:Src P 1 e j m.length (cb m) w) (p:base<=w.heap.size) (q:l.length+m.length<=140737488355328)
 (y:∀(b:Option Addr) (c d:Nat) w',bL w' base E (.slice b c d) (l++m)->mP w w' v (.slice b c d)->wpList P ops Q rest (a.put o.dst (.slice b c d)) w'):wpList P ops Q (o::rest) a w:=
 wpList_plain z fun _ k=>nk s x t e D base E i A hi hz C u n h j m hx r p q fun b c d w' B F=>k _ _ (y b c d w' B F)
theorem rL {P:Program}{w:World}{ops:Array Oper}{o:Oper}{a:Act}{K:Act->World->Prop}{Q:Exit->Act->World->Prop}{k:Prop}(z:o.guard=none)(s x:Operand)(t c:TypeId)
 (D:o.op= .call {callee:= .builtin .append,args:= #[s,x],argTypes:= #[t,c]}) (base:Nat) (E:TypeId) (i:TypeInfo) (A:P.underlying t=some (.slice E)) (hi:P.info? E=some i) (hz:i.zero=some (.int .u8 0)) (C:i.size=1) (u:i.bytes=1)
 {v:Value} {l:List UInt8} (n:a.eval s=v) (h:bL w base E v l) (d:Value) (m:List UInt8) (hx:a.eval x=d) (r:Src P 1 c d m.length (cb m) w) (p:base<=w.heap.size) (q:l.length+m.length<=140737488355328)
 (y:∀(b:Option Addr) (e j:Nat) w',bL w' base E (.slice b e j) (l++m)->mP w w' v (.slice b e j)->K (a.put o.dst (.slice b e j)) w'):
 if Region.wanted o (yielded ops a.tmps)=true then Oper.wp P o a w K Q else k:=by
 have B:Region.wanted o (yielded ops a.tmps)=true:=by simp[Region.wanted,z]
 rw[zi B];exact nk s x t c D base E i A hi hz C u n h d m hx r p q y
theorem pe {s:ByteArray}{k:Nat}{b:UInt8}(c:s.data.toList[k]?=some b):∃h:k<s.size,s[k]=b:=by
 have h:k<s.size:=by
  have:=(xx.1 c).1;simpa using this
 refine⟨h, ?_⟩;rw[gL s k h]at c;injection c
theorem lg {s:ByteArray}{size f k b d:Nat}{out c:List UInt8}(h:k<s.size)(e:s[k].toNat=b)(i:bV s size k b out=(0,d,c)):fL s size (f+1) k out=fL s size f d c:=by
 rw[fL,Z1 h,e,i,zi rfl]
def aQ (n:Nat):List UInt8:=if n<128 then [ub n]else ub (n%128+128:Nat)::aQ (n/128)
termination_by n
theorem gd {n:Nat}(h:n<128):aQ n= [ub n]:=by rw[aQ,zi h]
theorem il {n:Nat}(h:¬n<128):aQ n=ub (n%128+128:Nat)::aQ (n/128):=by rw[aQ,zh h]
theorem qj (n:Nat):1<=(aQ n).length:=by
 by_cases h:n<128
 ·simp[gd h]
 simp[il h]
theorem bo (k:Nat):∀n,n<128^k->1<=k->(aQ n).length<=k:=by
 induction k with
 |zero=>intro n _ h;omega
 |succ k ih=>
  intro n b _;by_cases h:n<128
  ·simp[gd h]
  rw[il h,zw];rcases Zj k with h0|h0
  ·subst h0;simp at b;omega
  have:=ih (n/128) (by rw[Zq]at b;exact xX (by rw[Zr];exact b)) h0;omega
theorem Mo (n:Nat):∀(s:ByteArray) (pre rest:List UInt8) (i m:Nat),s.data.toList=pre++(aQ n++rest)->pre.length=i->i<=9->n<2^(64-7*i)->(i=0\/0<n)->
 cq s (10-i) i m=(m+n*2^(7*i),i+(aQ n).length,0):=by
 induction n using Nat.strongRecOn with
 |ind n ih=>
  intro s pre rest i m d j hi q w;rw[show 10-i=(9-i)+1 from by omega];have p:i=9->n<=1:=by
   intro h;subst h;have:(2:Nat)^(64-7*9)=2:=by decide
   omega
  by_cases h:n<128
  ·rw[gd h]at d⊢;obtain⟨g,e⟩:=pe (s:=s) (k:=i) (b:=ub n) (by rw[d,yk (by omega),j];simp);have c:s[i].toNat=n:=by rw[e,bn n (by omega)]
   rw[ig s _ i m g (by rw[c];omega) (by rw[c];exact h),c,Nat.mod_eq_of_lt h];simp
  rw[il h]at d⊢;obtain⟨g,e⟩:=pe (s:=s) (k:=i) (b:=ub (n%128+128:Nat)) (by rw[d,yk (by omega),j];simp);have c:s[i].toNat=n%128+128:=by rw[e,bn _ (by omega)]
  rw[ij s _ i m g (by rw[c];omega) (by rw[c];omega),c];have u:7*i+7<=64:=by
   rcases xC i 9 with h9|h9
   ·omega
   have:=p (by omega);omega
  have r:2^(64-7*i)=2^(64-7*(i+1))*128:=by
   rw[show 64-7*i=(64-7*(i+1))+7 from by omega,xV]
  have hd:n/128<2^(64-7*(i+1)):=xX (by rw[Zr,<-r];exact q);have:=ih (n/128) (by omega) s (pre++ [ub (n%128+128:Nat)]) rest (i+1) (m+(n%128+128)%128*2^(7*i)) (by rw[d];simp) (by simp;omega) (by omega) hd (Or.inr (by omega));rw[show 9-i=10-(i+1)from by omega,this];have o:2^(7*(i+1))=128*2^(7*i):=by rw[show 7*(i+1)=7+7*i from by omega,xV]
  have l:m+(n%128+128)%128*2^(7*i)+n/128*2^(7*(i+1))=m+n*2^(7*i):=by
   rw[o,show(n%128+128)%128=n%128 from by omega,<-Nat.mul_assoc,ym,<-Nat.add_mul,show n%128+n/128*128=n from by omega]
  rw[l];exact ZH rfl (ZH (by simp only[zw];omega) rfl)
theorem iO (n:Nat)(s:ByteArray)(rest:List UInt8)(c:s.data.toList=aQ n++rest)(b:n<18446744073709551616):au s=(n,(aQ n).length,0):=by
 have:=Mo n s [] rest 0 0 (by simpa using c) rfl (by omega) (by simpa using b) (Or.inl rfl);simpa[au]using this
def mt (L:List UInt8)(j i:Nat):Nat->Nat
 |0=>0
 |f+1=>if i<L.length/\L[j]?=L[i]? then mt L (j+1) (i+1) f+1 else 0
def Ia (L:List UInt8)(i:Nat):Nat->Option Nat
 |0=>none
 |j+1=>if 4<=mt L j i 64 then some j else Ia L i j
def im (l:List UInt8):List UInt8:=
 if l.length=0 then []else if l.length<=60 then ub (4*(l.length-1):Nat)::l
 else if l.length<=256 then 240::ub (l.length-1:Nat)::l
 else 244::ub ((l.length-1)%256:Nat)::ub ((l.length-1)/256:Nat)::l
def lh (n d:Nat):List UInt8:=
 if n<=11/\d<2048 then [ub (1+4*(n-4)+32*(d/256):Nat),ub (d%256:Nat)]
 else [ub (2+4*(n-1):Nat),ub (d%256:Nat),ub (d/256:Nat)]
def pk (L:List UInt8):Nat->Nat->Nat->List UInt8
 |0,_,_=> []
 |f+1,p,i=>if i<L.length then
  (match Ia L i i with
  |none=>pk L f p (i+1)
  |some j=>im ((L.take i).drop p)++(lh (mt L j i 64) (i-j)++pk L f (i+mt L j i 64) (i+mt L j i 64)))
  else im (L.drop p)
def pack (L:List UInt8):List UInt8:=aQ L.length++pk L (L.length+1) 0 0
theorem BX (L:List UInt8)(f:Nat):∀j i,mt L j i f<=f/\(i<=L.length->i+mt L j i f<=L.length):=by
 induction f with
 |zero=>intro j i;simp[mt]
 |succ f ih=>
  intro j i;have:=ih (j+1) (i+1);unfold mt;split<;>omega
theorem EW (L:List UInt8)(f:Nat):∀j i n,n<mt L j i f->L[j+n]?=L[i+n]?:=by
 induction f with
 |zero=>intro j i n h;simp[mt]at h
 |succ f ih=>
  intro j i n h;unfold mt at h;split at h
  ·rename_i b
   cases n with
   |zero=>exact b.2
   |succ n=>
    have:=ih (j+1) (i+1) n (by omega);rw[show j+(n+1)=j+1+n from by omega,show i+(n+1)=i+1+n from by omega];exact this
  omega
theorem qk (L:List UInt8)(i:Nat):∀k j,Ia L i k=some j->j<k/\4<=mt L j i 64:=by
 intro k;induction k with
 |zero=>intro j h;simp[Ia]at h
 |succ k ih=>
  intro j h;unfold Ia at h;split at h
  ·rename_i b
   injection h with h;subst h;exact⟨by omega,b⟩
  have:=ih j h;omega
theorem WR (L:List UInt8)(j i:Nat)(h:j<i)(hi:i<=L.length):∀n,n<=mt L j i 64->uc (L.take i) (i-j) n=L.take (i+n):=by
 intro n;induction n with
 |zero=>intro _;rfl
 |succ n ih=>
  intro e;have d:=(BX L 64 j i).2 hi;rw[EG,ih (by omega)];have c:(L.take (i+n)).length=i+n:=by rw[zU];omega
  have b:=EW L 64 j i n (by omega);rw[c,show i+n-(i-j)=j+n from by omega,show i+(n+1)=(i+n)+1 from by omega,yr (by omega)];congr 1
  rw[zv,yA (by omega),b,zA (by omega)];rfl
theorem ku (l:List UInt8)(h:l.length<=65536):l.length<=(im l).length/\(im l).length<=l.length+(if l.length=0 then 0 else if l.length<=60 then 1 else if l.length<=256 then 2 else 3):=by
 unfold im;split
 ·rename_i b;simp[b]
 split
 ·simp
 split<;>simp<;>omega
theorem sQ (n d:Nat):2<=(lh n d).length/\(lh n d).length<=3:=by
 unfold lh;split<;>simp
theorem Mp (L:List UInt8)(k:L.length<=65536)(f:Nat):∀p i,p<=i->i<=L.length->32*(pk L f p i).length<=33*(L.length-p)+96:=by
 induction f with
 |zero=>intro p i _ _;simp[pk]
 |succ f ih=>
  intro p i e hi;unfold pk;split
  ·cases hf:Ia L i i with
   |none=>exact ih p (i+1) (by omega) (by omega)
   |some j=>
    obtain⟨m,n⟩:=qk L i i j hf;have d:=(BX L 64 j i).2 hi;have l:=ih (i+mt L j i 64) (i+mt L j i 64) (zd _) d;have h:=sQ (mt L j i 64) (i-j);have c:((L.take i).drop p).length=i-p:=by simp;omega
    have b:=ku ((L.take i).drop p) (by omega);rw[c]at b;simp only[zj];split at b
    ·omega
    split at b
    ·omega
    split at b<;>omega
  have c:(L.drop p).length=L.length-p:=by simp
  have b:=ku (L.drop p) (by omega);rw[c]at b;split at b
  ·omega
  split at b
  ·omega
  split at b<;>omega
theorem sR (L:List UInt8)(b:L.length<=65536):(pack L).length<=L.length+L.length/32+8:=by
 have d:=Mp L b (L.length+1) 0 0 (zd _) (yc _);have c:=bo 3 L.length (by omega) (by omega);unfold pack;rw[zj];omega
theorem EX (B:ByteArray)(size:Nat)(pre l rest out:List UInt8)(c:B.data.toList=pre++(im l++rest))(q:l.length<=65536)(r:out.length+l.length<=size):
 ∃n,n<=(im l).length/\∀F,fL B size (F+n) pre.length out=fL B size F (pre.length+(im l).length) (out++l):=by
 by_cases m:l.length=0
 ·have:l= []:=zo m;subst this;exact⟨0,by simp,fun F=>by simp[im]⟩
 refine⟨1, ?_,fun F=> ?_⟩
 ·have:=ku l q;omega
 have hz:B.size=pre.length+(im l).length+rest.length:=by rw[<-aa,c];simp[ym]
 have hcut:∀a b,(B.extract (pre.length+a) (pre.length+b)).data.toList=((im l++rest).take b).drop a:=by
  intro a b;rw[an,c,List.take_append,List.drop_append,show pre.length+b-pre.length=b from by omega,zI (by rw[zU];omega),yu,zU,show pre.length+a-min (pre.length+b) pre.length=a from by omega]
 unfold im at c hz hcut⊢;rw[zh m]at c hz hcut⊢;by_cases p:l.length<=60
 ·rw[zi p]at c hz hcut⊢;obtain⟨g,e⟩:=pe (s:=B) (k:=pre.length) (b:=ub (4*(l.length-1):Nat)) (by rw[c];simp);have i:B[pre.length].toNat=4*(l.length-1):=by rw[e,bn _ (by omega)]
  have d:bj (4*(l.length-1))=1:=by unfold bj;rw[zi (by omega),zh (by omega)]
  have h:∀x,cO (4*(l.length-1)) x=l.length:=by intro x;unfold cO;rw[zi (by omega),zh (by omega)];omega
  simp only[zw]at hz⊢;refine lg g i ?_;unfold bV;rw[h,d,zh (by omega),zh (by omega),zi (by omega),zh (by omega),show pre.length+1+l.length=pre.length+(1+l.length)from by omega,hcut];simp only[zV,Zs 1,zP,yg,zK,zX (zd l.length),Z9]
 rw[zh p]at c hz hcut⊢;by_cases o:l.length<=256
 ·rw[zi o]at c hz hcut⊢;obtain⟨g,e⟩:=pe (s:=B) (k:=pre.length) (b:=240) (by rw[c];simp);have i:B[pre.length].toNat=240:=by rw[e];rfl
  have d:bj 240=2:=by decide
  simp only[zw]at hz⊢;have j:iK B pre.length 240=l.length-1:=by
   unfold iK;rw[d,hcut];simp only[zV,zP,yg,zK,yz];simp only[cZ,bn (l.length-1) (by omega)];omega
  have h:cO 240 (l.length-1)=l.length:=by unfold cO;rw[zi (by omega),zi (by omega)];omega
  refine lg g i ?_;unfold bV;rw[j,h,d,zh (by omega),zh (by omega),zi (by omega),zh (by omega),show pre.length+2+l.length=pre.length+(l.length+2)from by omega,hcut];simp only[zV,zP,yg,zK,zX (zd l.length),Z9]
 rw[zh o]at c hz hcut⊢;obtain⟨g,e⟩:=pe (s:=B) (k:=pre.length) (b:=244) (by rw[c];simp);have i:B[pre.length].toNat=244:=by rw[e];rfl
 have d:bj 244=3:=by decide
 simp only[zw]at hz⊢;have j:iK B pre.length 244=l.length-1:=by
  unfold iK;rw[d,hcut];simp only[zV,zP,yg,zK,yz];simp only[cZ,bn ((l.length-1)%256) (by omega),bn ((l.length-1)/256) (by omega)];omega
 have h:cO 244 (l.length-1)=l.length:=by unfold cO;rw[zi (by omega),zi (by omega)];omega
 refine lg g i ?_;unfold bV;rw[j,h,d,zh (by omega),zh (by omega),zi (by omega),zh (by omega),show pre.length+3+l.length=pre.length+(l.length+3)from by omega,hcut];simp only[zV,zP,yg,zK,zX (zd l.length),Z9]
theorem O6 (B:ByteArray)(size n d:Nat)(pre rest out:List UInt8)(c:B.data.toList=pre++(lh n d++rest))(w:4<=n)(u:n<=64)(hd:1<=d)(p:d<=out.length)(r:d<65536)(q:out.length+n<=size)(F:Nat):
 fL B size (F+1) pre.length out=fL B size F (pre.length+(lh n d).length) (uc out d n):=by
 have hz:B.size=pre.length+(lh n d).length+rest.length:=by rw[<-aa,c];simp[ym]
 have hcut:∀a b,(B.extract (pre.length+a) (pre.length+b)).data.toList=((lh n d++rest).take b).drop a:=by
  intro a b;rw[an,c,List.take_append,List.drop_append,show pre.length+b-pre.length=b from by omega,zI (by rw[zU];omega),yu,zU,show pre.length+a-min (pre.length+b) pre.length=a from by omega]
 unfold lh at c hz hcut⊢;by_cases o:n<=11/\d<2048
 ·rw[zi o]at c hz hcut⊢;obtain⟨g,e⟩:=pe (s:=B) (k:=pre.length) (b:=ub (1+4*(n-4)+32*(d/256):Nat)) (by rw[c];simp);have l:B[pre.length].toNat=1+4*(n-4)+32*(d/256):=by rw[e,bn _ (by omega)]
  have h:bj (1+4*(n-4)+32*(d/256))=2:=by unfold bj;rw[zh (by omega),zi (by omega)]
  simp only[zw,zL]at hz⊢;have m:iK B pre.length (1+4*(n-4)+32*(d/256))=d%256:=by
   unfold iK;rw[h,hcut];simp only[zV,zP,yg,zK,yz];simp only[cZ,bn (d%256) (by omega)];omega
  have j:∀x,cO (1+4*(n-4)+32*(d/256)) x=n:=by intro x;unfold cO;rw[zh (by omega),zi (by omega)];omega
  have i:kn (1+4*(n-4)+32*(d/256)) (d%256)=d:=by unfold kn;rw[zi (by omega)];omega
  refine lg g l ?_;unfold bV;rw[m,i,j,h,zh (by omega),zh (by omega),zh (by omega)]
 rw[zh o]at c hz hcut⊢;obtain⟨g,e⟩:=pe (s:=B) (k:=pre.length) (b:=ub (2+4*(n-1):Nat)) (by rw[c];simp);have l:B[pre.length].toNat=2+4*(n-1):=by rw[e,bn _ (by omega)]
 have h:bj (2+4*(n-1))=3:=by unfold bj;rw[zh (by omega),zh (by omega),zi (by omega)]
 simp only[zw,zL]at hz⊢;have m:iK B pre.length (2+4*(n-1))=d:=by
  unfold iK;rw[h,hcut];simp only[zV,zP,yg,zK,yz];simp only[cZ,bn (d%256) (by omega),bn (d/256) (by omega)];omega
 have j:∀x,cO (2+4*(n-1)) x=n:=by intro x;unfold cO;rw[zh (by omega),zh (by omega)];omega
 have i:kn (2+4*(n-1)) d=d:=by unfold kn;rw[zh (by omega)]
 refine lg g l ?_;unfold bV;rw[m,i,j,h,zh (by omega),zh (by omega),zh (by omega)]
theorem Tu (B:ByteArray)(L:List UInt8)(E:L.length<=65536)(f:Nat):∀(p i:Nat) (pre:List UInt8),p<=i->i<=L.length->L.length-i<f->B.data.toList=pre++pk L f p i->
 ∃n,n<=(pk L f p i).length/\∀F,fL B L.length (F+n) pre.length (L.take p)=fL B L.length F B.size L:=by
 induction f with
 |zero=>intro p i pre _ _ h;omega
 |succ f ih=>
  intro p i pre s hi D b;unfold pk at b⊢;by_cases h:i<L.length
  ·rw[zi h]at b⊢;cases hfd:Ia L i i with
   |none=>
    rw[hfd]at b;exact ih p (i+1) pre (by omega) (by omega) (by omega) b
   |some j=>
    rw[hfd]at b;simp only at b⊢;obtain⟨w,r⟩:=qk L i i j hfd;have k:=BX L 64 j i;have u:=k.2 hi;have A:((L.take i).drop p).length=i-p:=by simp;omega
    have C:(L.take p).length=p:=by rw[zU];omega
    have y:(L.take i).length=i:=by rw[zU];omega
    have q:L.take p++(L.take i).drop p=L.take i:=by
     have:=zJ p (L.take i);rwa [xe,yw s]at this
    obtain⟨n1,m,c⟩:=EX B L.length pre ((L.take i).drop p) _ (L.take p) b (by omega) (by omega);rw[q]at c;have o:B.data.toList=(pre++im ((L.take i).drop p))++(lh (mt L j i 64) (i-j)++pk L f (i+mt L j i 64) (i+mt L j i 64)):=by rw[b,zB]
    have l:=O6 B L.length (mt L j i 64) (i-j) _ _ (L.take i) o r k.1 (by omega) (by omega) (by omega) (by omega);rw[WR L j i w hi _ (zd _),zj]at l;have x:B.data.toList=((pre++im ((L.take i).drop p))++lh (mt L j i 64) (i-j))++pk L f (i+mt L j i 64) (i+mt L j i 64):=by rw[o,zB _ (lh _ _) _]
    obtain⟨d,z,e⟩:=ih _ _ _ (zd _) u (by omega) x;rw[zj,zj]at e;refine⟨d+1+n1, ?_,fun F=> ?_⟩
    ·have:=sQ (mt L j i 64) (i-j);simp only[zj];omega
    rw[show F+(d+1+n1)=(F+d+1)+n1 from by omega,c,l,e]
  rw[zh h]at b⊢;have y:(L.take p).length=p:=by rw[zU];omega
  obtain⟨n1,m,c⟩:=EX B L.length pre (L.drop p) [] (L.take p) (by simpa using b) (by simp;omega) (by simp;omega);refine⟨n1,m,fun F=> ?_⟩;rw[c,zJ];congr 1
  rw[<-aa,b,zj]
theorem BY (s:ByteArray)(L:List UInt8)(c:L.length<=65536)(b:s.data.toList=pack L):ay s=(L.length,(aQ L.length).length,0):=by
 unfold pack at b;have h:=iO L.length s _ b (by omega);unfold ay;rw[h,zi rfl,zh (by simp;omega)]
theorem EY (s:ByteArray)(L:List UInt8)(c:L.length<=65536)(b:s.data.toList=pack L)(most:Int)(j:L.length<=most):aZ s most=(0,L):=by
 have h:=BY s L c b;unfold aZ;rw[h];simp only[ne_eq,yU,xG];rw[zh (by omega)];unfold pack at b;generalize i:s.extract (aQ L.length).length s.size=B;have d:B.data.toList=pk L (L.length+1) 0 0:=by
  rw[<-i,an,cQ,b,yI (zd _),Ya,yu]
 obtain⟨n,k,e⟩:=Tu B L c (L.length+1) 0 0 [] (zd _) (yc _) (by omega) (by simpa using d);unfold jd;have hz:B.size=(pk L (L.length+1) 0 0).length:=by rw[<-aa,d]
 rw[show B.size+1=(B.size-n+1)+n from by omega];have:=e (B.size-n+1);simp only[zL,yz]at this;rw[this];unfold fL;rw[dif_neg (by omega),zh (by omega)]
def ar (most:Int)(s:ByteArray):Nat×Nat×Int:=
 if(au s).2.2=0 then(if most<(au s).1 then(0,0,5)else((au s).1,(au s).2.1,0))else(0,0,(au s).2.2)
def ai (most:Int)(s:ByteArray):Int×Nat×ByteArray×Nat:=
 if(ar most s).2.2≠0 then((ar most s).2.2,0,ByteArray.empty,0)
 else if s.size<(ar most s).2.1+(ar most s).1 then(2,0,ByteArray.empty,0)
 else if(au (s.extract (ar most s).2.1 ((ar most s).2.1+(ar most s).1))).2.2≠0 then(3,0,ByteArray.empty,0)
 else(0,(au (s.extract (ar most s).2.1 ((ar most s).2.1+(ar most s).1))).1,
  (s.extract (ar most s).2.1 ((ar most s).2.1+(ar most s).1)).extract (au (s.extract (ar most s).2.1 ((ar most s).2.1+(ar most s).1))).2.1 (ar most s).1,
  (ar most s).2.1+(ar most s).1)
theorem dT (most:Int)(s:ByteArray):ai most s=(
 if(ar most s).2.2≠0 then((ar most s).2.2,0,ByteArray.empty,0)
 else if s.size<(ar most s).2.1+(ar most s).1 then(2,0,ByteArray.empty,0)
 else if(au (s.extract (ar most s).2.1 ((ar most s).2.1+(ar most s).1))).2.2≠0 then(3,0,ByteArray.empty,0)
 else(0,(au (s.extract (ar most s).2.1 ((ar most s).2.1+(ar most s).1))).1,
  (s.extract (ar most s).2.1 ((ar most s).2.1+(ar most s).1)).extract (au (s.extract (ar most s).2.1 ((ar most s).2.1+(ar most s).1))).2.1 (ar most s).1,
  (ar most s).2.1+(ar most s).1)):=rfl
def eD (id:Nat)(body:List UInt8):List UInt8:=aQ (aQ id++body).length++(aQ id++body)
theorem oh (most:Int)(s:ByteArray)(h:(ar most s).2.2=0):((ar most s).1:Int)<=most/\(ar most s).2.1<=s.size/\0<(ar most s).2.1/\(ar most s).2.1<=10:=by
 unfold ar at h⊢;by_cases b:(au s).2.2=0
 ·rw[zi b]at h⊢;have d:=fZ s b;by_cases c:most<(au s).1
  ·rw[zi c]at h;simp at h
  rw[zh c];simp only;omega
 rw[zh b]at h;exact absurd h b
theorem vh (most:Int)(id:Nat)(body:ByteArray)(s:ByteArray)(rest:List UInt8)(hid:id<18446744073709551616)(b:s.data.toList=eD id body.data.toList++rest)(n:((aQ id).length+body.size:Int)<=most)(p:body.size<=1000000):
 ai most s=(0,id,body,(eD id body.data.toList).length):=by
 unfold eD at b⊢;have o:=bo 10 id (by omega) (by omega);have i:(aQ id++body.data.toList).length=(aQ id).length+body.size:=by rw[zj,aa]
 have m:=iO (aQ id++body.data.toList).length s ((aQ id++body.data.toList)++rest) (by rw[b,zB]) (by omega);have j:ar most s=((aQ id++body.data.toList).length,(aQ (aQ id++body.data.toList).length).length,0):=by
  unfold ar;rw[m];simp only[xA];rw[zh (by rw[i];omega)]
 have q:s.size=(aQ (aQ id++body.data.toList).length).length+(aQ id++body.data.toList).length+rest.length:=by
  rw[<-aa,b];simp only[zj]
 generalize c:(aQ (aQ id++body.data.toList).length).length=K at*;generalize l:(aQ id++body.data.toList).length=N at*;have d:(s.extract K (K+N)).data.toList=aQ id++body.data.toList:=by
  rw[an,b,zB,List.take_append,List.drop_append,c];have e:(List.take (K+N) (aQ N)).length=K:=by rw[zU,c];omega
  rw[zI (by rw[e];exact zd _),e,ZR,zK,yu,show K+N-K=N from by omega,zX (by omega),zy (by omega)]
 have k:=iO id (s.extract K (K+N)) body.data.toList d hid;have h:(s.extract K (K+N)).extract (aQ id).length N=body:=by
  apply aB;rw[an,d,zy (by omega),yI (zd _),Ya,yu]
 unfold ai;rw[j];simp only[ne_eq,yU,xG];rw[zh (by omega),k];simp only[yU,xG];rw[h,zj,c,l]
def aR (most iZ:Int)(s:ByteArray):Int×Nat×ByteArray×Nat×Nat:=
 if(ai most s).1≠0 then((ai most s).1,0,ByteArray.empty,0,0)
 else if(ay (ai most s).2.2.1).2.2≠0 then((if(ay (ai most s).2.2.1).2.2=5 then 5 else 3),0,ByteArray.empty,0,0)
 else if iZ<(ay (ai most s).2.2.1).1 then(5,0,ByteArray.empty,0,0)
 else if(aZ (ai most s).2.2.1 iZ).1≠0 then(3,0,ByteArray.empty,0,(ay (ai most s).2.2.1).1)
 else(0,(ai most s).2.1,⟨(aZ (ai most s).2.2.1 iZ).2.toArray⟩,(ai most s).2.2.2,(ay (ai most s).2.2.1).1)
theorem bu (most b:Int)(s:ByteArray):aR most b s=(
 if(ai most s).1≠0 then((ai most s).1,0,ByteArray.empty,0,0)
 else if(ay (ai most s).2.2.1).2.2≠0 then((if(ay (ai most s).2.2.1).2.2=5 then 5 else 3),0,ByteArray.empty,0,0)
 else if b<(ay (ai most s).2.2.1).1 then(5,0,ByteArray.empty,0,0)
 else if(aZ (ai most s).2.2.1 b).1≠0 then(3,0,ByteArray.empty,0,(ay (ai most s).2.2.1).1)
 else(0,(ai most s).2.1,⟨(aZ (ai most s).2.2.1 b).2.toArray⟩,(ai most s).2.2.2,(ay (ai most s).2.2.1).1)):=rfl
theorem Mq (s:ByteArray)(c:Nat)(j:c<=s.size)(f:Nat):∀i n,cq (s.extract 0 c) f i n=cq s f i n\/cq (s.extract 0 c) f i n=(0,0,2):=by
 have hz:(s.extract 0 c).size=c:=by rw[aj _ _ _ j];omega
 induction f with
 |zero=>intro i n;exact .inl rfl
 |succ f ih=>
  intro i n;by_cases hi:i<c
  ·have h:i<(s.extract 0 c).size:=by omega
   have d:i<s.size:=by omega
   have e:(s.extract 0 c)[i]=s[i]:=by
    have b:=gL (s.extract 0 c) i h;rw[an,zK,yA hi,gL s i d]at b;injection b with b;exact b.symm
   rw[cq,cq,Z1 h,Z1 d,e];split
   ·exact .inl rfl
   split
   ·exact .inl rfl
   exact ih _ _
  exact .inr (jD _ _ _ _ (by omega))
theorem nn (s:ByteArray)(c:Nat)(b:c<=s.size):au (s.extract 0 c)=au s\/au (s.extract 0 c)=(0,0,2):=Mq s c b 10 0 0
theorem vi (most:Int)(s:ByteArray)(c:Nat)(i:c<=s.size):ai most (s.extract 0 c)=ai most s\/ai most (s.extract 0 c)=(2,0,ByteArray.empty,0):=by
 have hz:(s.extract 0 c).size=c:=by rw[aj _ _ _ i];omega
 rcases nn s c i with h|h
 ·have d:ar most (s.extract 0 c)=ar most s:=by unfold ar;rw[h]
  rw[dT most (s.extract 0 c),dT most s,d,hz];by_cases b:(ar most s).2.2≠0
  ·rw[zi b,zi b];exact .inl rfl
  rw[zh b,zh b];by_cases j:c<(ar most s).2.1+(ar most s).1
  ·rw[zi j];exact .inr rfl
  have k:¬s.size<(ar most s).2.1+(ar most s).1:=by omega
  rw[zh j,zh k];have e:(s.extract 0 c).extract (ar most s).2.1 ((ar most s).2.1+(ar most s).1)=s.extract (ar most s).2.1 ((ar most s).2.1+(ar most s).1):=by
   apply aB;rw[an,an,an,zK,xe,yw (by omega)]
  rw[e];exact .inl rfl
 have d:ar most (s.extract 0 c)=(0,0,2):=by unfold ar;rw[h];rfl
 rw[dT most (s.extract 0 c),d];exact .inr rfl
theorem ql (most b:Int)(s:ByteArray)(h:(aR most b s).1=2):aR most b s=(2,0,ByteArray.empty,0,0):=by
 rw[bu]at h⊢;by_cases c:(ai most s).1≠0
 ·rw[zi c]at h⊢;simp only at h⊢;rw[h]
 rw[zh c]at h⊢;split at h
 ·simp only at h;split at h<;>omega
 split at h
 ·simp at h
 split at h<;>simp at h
theorem Ib (most b:Int)(s:ByteArray)(c:Nat)(i:c<=s.size):aR most b (s.extract 0 c)=(2,0,ByteArray.empty,0,0)\/((aR most b s).1≠2/\aR most b (s.extract 0 c)=aR most b s):=by
 rcases vi most s c i with h|h
 ·have e:aR most b (s.extract 0 c)=aR most b s:=by rw[bu,bu most b s,h]
  by_cases d:(aR most b s).1=2
  ·left;rw[e];exact ql most b s d
  exact .inr ⟨d,e⟩
 left;rw[bu,h];rfl
theorem vj (s:ByteArray):∀(f i n m k:Nat),cq s f i n=(m,k,0)->∃r,m=n+r*2^(7*i)/\(0<i->0<r)/\i<k/\k<=s.size/\aQ r=(s.data.toList.take k).drop i
 |0,i,n,m,k,h=>by simp[cq]at h
 |f+1,i,n,m,k,h=>by
  by_cases hi:i<s.size
  ·by_cases d:(i=9/\1<s[i].toNat)\/(0<i/\s[i].toNat=0)
   ·rw[k9 s f i n hi d]at h;simp at h
   have w:s.data.toList[i]?=some s[i]:=by
    rw[zA (by rw[aa];exact hi)];rfl
   by_cases c:s[i].toNat<128
   ·rw[ig s f i n hi d c]at h;injection h with h1 b;injection b with b _;refine⟨s[i].toNat,by rw[<-h1,Nat.mod_eq_of_lt c],fun z=>by omega,by omega,by omega, ?_⟩;rw[gd c,<-b];have hu:ub (s[i].toNat:Nat)=s[i]:=by apply zO.1;rw[bn _ (by omega)]
    rw[hu,Z3,w,Option.toList_some,yI (by rw[zU,aa];omega),zI (by rw[zU];omega),yu]
   rw[ij s f i n hi d c]at h;obtain⟨r,e,j,x,o,l⟩:=vj s f (i+1) _ m k h;have y:=j (by omega);have A:=s[i].toNat_lt;have b:2^(7*(i+1))=128*2^(7*i):=by rw[show 7*(i+1)=7+7*i from by omega,xV]
   refine⟨s[i].toNat%128+r*128,by rw[e,b,Nat.add_mul,Nat.mul_assoc,ym],fun _=>by omega,by omega,o, ?_⟩;have q:(s[i].toNat%128+r*128)%128=s[i].toNat%128:=by omega
   have p:(s[i].toNat%128+r*128)/128=r:=by omega
   rw[il (by omega),q,p,l];have hu:ub (s[i].toNat%128+128:Nat)=s[i]:=by apply zO.1;rw[bn _ (by omega)];omega
   rw[hu];have u:i<(s.data.toList.take k).length:=by rw[zU,aa];omega
   rw[yX u];rw[List.getElem_take];rfl
  rw[jD s (f+1) i n hi]at h;simp at h
theorem lV (s:ByteArray)(h:(au s).2.2=0):aQ (au s).1=s.data.toList.take (au s).2.1/\(au s).2.1=(aQ (au s).1).length:=by
 obtain⟨r,c,_,_,e,b⟩:=vj s 10 0 0 (au s).1 (au s).2.1 (by rw[<-h];rfl);have d:(au s).1=r:=by simpa using c
 rw[d,b,zK];exact⟨rfl,by rw[zU,aa];omega⟩
theorem sS (s:ByteArray):∀(f i n:Nat),i+f=10->(cq s f i n).2.2=2->f=0\/s.size<10
 |0,i,n,_,_=> .inl rfl
 |f+1,i,n,hif,h=>by
  right;by_cases hi:i<s.size
  ·by_cases b:(i=9/\1<s[i].toNat)\/(0<i/\s[i].toNat=0)
   ·rw[k9 s f i n hi b]at h;simp at h
   by_cases c:s[i].toNat<128
   ·rw[ig s f i n hi b c]at h;simp at h
   rw[ij s f i n hi b c]at h;rcases sS s f (i+1) _ (by omega) h with h1|h1
   ·omega
   exact h1
  omega
theorem AU (s:ByteArray)(h:(au s).2.2=2):s.size<10:=by
 rcases sS s 10 0 0 rfl h with h1|h1
 ·omega
 exact h1
theorem vl (most:Int)(id:Nat)(body:List UInt8)(s:ByteArray)(rest:List UInt8)(c:s.data.toList=eD id body++rest)(b:(aQ id++body).length<18446744073709551616):
 ar most s=if most<(aQ id++body).length then(0,0,5)else((aQ id++body).length,(aQ (aQ id++body).length).length,0):=by
 have d:=iO (aQ id++body).length s ((aQ id++body)++rest) (by rw[c];unfold eD;rw[zB]) b;unfold ar;rw[d];simp only[xA]
theorem nr (most:Int)(s:ByteArray)(h:(ar most s).2.2=5):ai most s=(5,0,ByteArray.empty,0):=by
 unfold ai;rw[zi (by rw[h];decide),h]
theorem vm (most:Int)(s:ByteArray)(id:Nat)(body:ByteArray)(n:Nat)(h:ai most s=(0,id,body,n)):
 n<=s.size/\id<18446744073709551616/\(((aQ id).length+body.size:Nat):Int)<=most/\n=(aQ ((aQ id).length+body.size)).length+((aQ id).length+body.size)/\(⟨(eD id body.data.toList).toArray⟩:ByteArray)=s.extract 0 n:=by
 unfold ai at h;by_cases b:(ar most s).2.2≠0
 ·rw[zi b]at h;injection h with h;exact absurd h b
 rw[zh b]at h;have b:=zC.1 b;have e:=oh most s b;have l:ar most s=((au s).1,(au s).2.1,0)/\(au s).2.2=0:=by
  unfold ar at b⊢;by_cases d:(au s).2.2=0
  ·rw[zi d]at b⊢;by_cases c:most<(au s).1
   ·rw[zi c]at b;simp at b
   rw[zh c];exact⟨rfl,d⟩
  rw[zh d]at b;exact absurd b d
 obtain⟨x,o⟩:=lV s l.2;rw[l.1]at h e;generalize (au s).1=N at*;generalize (au s).2.1=K at*;try simp only at h e
 by_cases d:s.size<K+N
 ·rw[zi d]at h;injection h with h;simp at h
 rw[zh d]at h;by_cases c:(au (s.extract K (K+N))).2.2≠0
 ·rw[zi c]at h;injection h with h;simp at h
 rw[zh c]at h;have c:=zC.1 c;obtain⟨m,j⟩:=lV _ c;have k:=fZ _ c;injection h with _ h;injection h with hid h;injection h with UU hn;rw[hid]at m j k;generalize (au (s.extract K (K+N))).2.1=J at*;have y:(s.extract K (K+N)).size=N:=by rw[aj _ _ _ (by omega)];omega
 have q:body.size=N-J:=by rw[<-UU,aj _ _ _ (by omega)]
 have u:(aQ id).length=J:=j.symm;have i:(aQ id).length+body.size=N:=by rw[u,q];omega
 have r:aQ id++body.data.toList=(s.extract K (K+N)).data.toList:=by
  have w:(s.extract K (K+N)).data.toList.take N=(s.extract K (K+N)).data.toList:=zy (by rw[aa];omega);rw[m,<-UU];generalize s.extract K (K+N)=R at*;rw[an R J N,w];exact zJ _ _
 refine⟨by omega,k.2.2.2,by rw[i];exact e.1,by rw[i,<-o];exact hn.symm, ?_⟩;apply aB;have p:(aQ id++body.data.toList).length=N:=by rw[zj,aa];exact i
 show eD id body.data.toList=_
 unfold eD;rw[p,x,r,an,an,zK,<-hn];have:=zJ K (s.data.toList.take (K+N));rwa [xe,yw (by omega)]at this
def iq (n:Nat):Nat->List UInt8
 |0=> []
 |k+1=>iq n k++ [ub (n/2^(8*k)%256:Nat)]
theorem bh (n k:Nat):(iq n k).length=k:=by
 induction k with
 |zero=>rfl
 |succ k ih=>simp[iq,ih]
theorem O7 {n k sz:Nat}(h:k<sz):(iq n k++List.replicate (sz-k) (0:UInt8)).set k (ub (n/2^(8*k)%256:Nat))=iq n (k+1)++List.replicate (sz-(k+1)) 0:=by
 obtain⟨d,hd⟩:∃d,sz-k=d+1:=⟨sz-k-1,by omega⟩
 rw[hd,ZN,xu _ _ (by rw[bh];exact zd _),bh,ZR,ze,show sz-(k+1)=d from by omega];simp[iq]
theorem Tv (n k:Nat):(n:Int)/2^(8*k)%256=((ub (n/2^(8*k)%256:Nat)).toNat:Int):=by
 rw[bn _ (by omega)];simp
theorem vn (n k:Nat):iq n (k+1)=ub (n%256:Nat)::iq (n/256) k:=by
 induction k with
 |zero=>simp[iq]
 |succ k ih=>
  rw[iq,ih,iq,zV];congr 4
  rw[Nat.div_div_eq_div_mul,show(256:Nat)=2^8 from rfl,<-xV,show 8+8*k=8*(k+1)from by omega]
def cH (n:Nat):List UInt8:=if h:n=0 then []else cH (n/256)++ [ub (n%256:Nat)]
termination_by n
theorem dq :cH 0= []:=by rw[cH];simp
theorem gQ {n:Nat}(h:n≠0):cH n=cH (n/256)++ [ub (n%256:Nat)]:=by rw[cH];simp[h]
theorem Tw (k:Nat):2^(8*(k+1))=256*2^(8*k):=by rw[show 8*(k+1)=8+8*k from by omega,xV]
theorem iP (k:Nat):∀n,n<2^(8*k)->(cH n).length<=k:=by
 induction k with
 |zero=>intro n h;simp at h;subst h;simp[dq]
 |succ k ih=>
  intro n h;by_cases b:n=0
  ·subst b;simp[dq]
  rw[gQ b,zj];have:=ih (n/256) (by rw[Tw]at h;exact xX h);simp;omega
theorem Mr (k:Nat):∀n,n<2^(8*k)->List.replicate (k-(cH n).length) 0++cH n=(iq n k).reverse:=by
 induction k with
 |zero=>intro n h;simp at h;subst h;simp[dq,iq]
 |succ k ih=>
  intro n h;have c:=iP (k+1) n h;have hd:n/256<2^(8*k):=by rw[Tw]at h;exact xX h
  rw[vn,List.reverse_cons,<-ih _ hd];by_cases b:n=0
  ·subst b;simp[dq,ub];rw[List.replicate_succ']
  rw[gQ b,zj,yv,show k+1-((cH (n/256)).length+1)=k-(cH (n/256)).length from by omega,zB]
theorem O8 (k n:Nat):n<2^(8*k)->cZ (iq n k)=n:=by
 induction k generalizing n with
 |zero=>intro h;simp at h;subst h;rfl
 |succ k ih=>
  intro h;rw[vn,cZ,ih (n/256) (by rw[Tw]at h;exact xX h),bn _ (by omega)];omega
theorem O9 (l:List UInt8):iq (cZ l) l.length=l:=by
 induction l with
 |nil=>rfl
 |cons b t ih=>
  have c:=b.toNat_lt;rw[zw,vn,cZ,show(b.toNat+256*cZ t)/256=cZ t from by omega,ih];congr 1
  rw[show(b.toNat+256*cZ t)%256=b.toNat from by omega];apply zO.1;rw[bn _ c]
