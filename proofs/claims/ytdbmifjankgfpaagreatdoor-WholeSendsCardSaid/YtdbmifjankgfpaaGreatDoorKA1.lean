/- Words for memory: a block that is known whole ('Blk'), a world that has turned at some blocks alone ('Only'), a slice that reads as a list ('Reads'). Own text; no program in sight. -/
import Derived.WalkKit
import Derived.Deep.AppendLies
import Derived.Deep.Draws
import Derived.Lib.Hide
import Derived.Lib.AtoiErrMem
import Derived.Test.YtdbmifjankgfpaaGreatDoorKA2
import Derived.Deep.Upon
import Derived.Deep.RegionLaw
import Derived.Maps.Range
set_option linter.all false
namespace Go.Proofs.YtdbmifjankgfpaaGreatDoor
open Go.RowKit
variable {w a w':World}{base g n B cap k i h x:Nat}{E t:TypeId}{v d:Value}{l:List UInt8}{L M:List Nat}{p:Addr}{xs:List Value}{A:Option Addr}{o:Oper}{Q:Exit->Act->World->Prop}{ops:Array Oper}{row:Option Nat}{rest:List Oper}{s:ByteArray}
def za:=@Lib.hid
def zl:=@Below.refl
def zA:=@World.cell?_alloc_lt
def zF:=@World.cell?_of_block
def zG:=@Nat.zero_add
def zI:=@List.drop_eq_nil_of_le
def zJ:=@List.drop_zero
def zK:=@Nat.le_trans
def zL:=@List.length_nil
def zO:=@List.take_succ_cons
def zR:=@Below.heap_setCell
def zX:=@List.drop_succ_cons
def yh:=@Nat.zero_le
def yu:=@List.take_zero
def yx:=@List.nil_append
def yA:=@List.getElem?_take_of_lt
def yI:=@lt_of_block
def yP:=@heap_alloc_new
def yZ:=@not_true_eq_false
def xw:=@List.take_take
def xB:=@List.getElem?_eq_some_iff
def xH:=@List.mem_map
def xM:=@if_false
def xT:=@Array.getElem?_eq_none
def xV:=@List.getElem?_map
def xZ:=@Nat.mul_one
def Za:=@Nat.div_lt_of_lt_mul
def Zh:=@List.length_set
def Zi:=@Nat.eq_zero_or_pos
def Zm:=@Nat.pow_succ
def Zo:=@Nat.add_comm
def Zt:=@Array.getElem?_modify
def Zy:=@Below.heap_alloc
def ZB:=@Prod.ext
def ZH:=@World.news_of_block
def ZN:=@grownCap_le_maxLen
def ZU:=@Array.toList_setIfInBounds
def ZV:=@World.heap_setCells_other
def ZZ:=@List.size_toArray
def Z3:=@run_convert_bytes_string
def Z8:=@List.take_length
def Z9:=@List.drop_length
def Yo:=@World.output_setCells
def Yp:=@Go.run_append_nothing
def af (w:World)(g:Nat)(t:TypeId)(cs:Array Value):Prop:=w.heap[g]?=some (.cells cs t (0,0))
theorem af.lt {b:Array Value}(h:af w g t b):g<w.heap.size:=yI h
theorem af.cell {w:World}{g:Nat}{t:TypeId}{b:Array Value}(h:af w g t b)(i:Nat):w.cell? ⟨g,i,none⟩=b[i]?:=by
 unfold af at h;simp[World.cell?,h]
theorem af.frozen {b:Array Value}(h:af w g t b)(i:Nat):w.frozen? ⟨g,i,none⟩=false:=by
 unfold af at h;simp[World.frozen?,h]
theorem af.new (w:World)(t:TypeId)(b:Array Value):af (w.alloc (.cells b t)) w.heap.size t b:=yP w _
theorem af.drew {b:Array Value}(h:af w g t b):af w.drew g t b:=h
theorem af.drewN {b:Array Value}(h:af w g t b)(n:Nat):af (w.drewN n) g t b:=h
theorem af.alloc {w:World}{g:Nat}{t:TypeId}{b:Array Value}(h:af w g t b)(o:Obj):af (w.alloc o) g t b:=(Zy w o g h.lt).trans h
theorem af.set {b:Array Value}(h:af w g t b)(i:Nat)(u:Value):af (w.setCell ⟨g,i,none⟩ u) g t (b.setIfInBounds i u):=by
 unfold af at h⊢;simp[World.setCell,Zt,h]
theorem af.dS {b:Array Value}(h:af w g t b)(c:g≠p.block)(u:Value):af (w.setCell p u) g t b:=(zR w p u g c).trans h
theorem af.beside {b:Array Value}(c:g≠p.block)(h:af w g t b)(u:Value):af (w.setCell p u) g t b:=h.dS c u
theorem af.store {c b:Array Value}{u:Value}(h:af w g t c)(e:c.setIfInBounds i u=b):af (w.setCell ⟨g,i,none⟩ u) g t b:=e▸h.set i u
structure ae (L:List Nat)(w w':World):Prop where
 os:w'.os=w.os
 tape:w'.tape=w.tape
 output:w'.output=w.output
 size:w.heap.size<=w'.heap.size
 block:∀k,k<w.heap.size->k∉L->w'.heap[k]?=w.heap[k]?
theorem ae.refl (L:List Nat)(w:World):ae L w w:=⟨rfl,rfl,rfl,zg _,fun _ _ _=>rfl⟩
theorem ae.trans' {b c:World}(h:ae L a b)(k:ae M b c)(j:∀i,i∈M->i∈L\/a.heap.size<=i):ae L a c:=
 ⟨k.os.trans h.os,k.tape.trans h.tape,k.output.trans h.output,zK h.size k.size,fun i hi d=>
  (k.block i (zU hi h.size) (fun e=>by rcases j i e with h1|h1;exact d h1;omega)).trans (h.block i hi d)⟩
theorem ae.trans {b c:World}(h:ae L a b)(k:ae L b c):ae L a c:=h.trans' k fun _ hi=> .inl hi
theorem ae.mono (h:ae L w w')(c:∀i,i∈L->i∈M):ae M w w':=⟨h.os,h.tape,h.output,h.size,fun k d e=>h.block k d (fun b=>e (c k b))⟩
theorem ae.drew (h:ae L a w):ae L a w.drew:=⟨h.os,h.tape,h.output,h.size,h.block⟩
theorem ae.drewN (h:ae L a w)(n:Nat):ae L a (w.drewN n):=⟨h.os,h.tape,h.output,h.size,h.block⟩
theorem ae.alloc {L:List Nat}{a w:World}(h:ae L a w)(o:Obj):ae L a (w.alloc o):=
 ⟨h.os,h.tape,h.output,zK h.size (by simp),fun k b c=>(Zy w o k (zU b h.size)).trans (h.block k b c)⟩
theorem ae.setCell (h:ae L a w)(b:p.block∈L\/a.heap.size<=p.block)(u:Value):ae L a (w.setCell p u):=
 ⟨h.os,h.tape,h.output,by simpa[World.setCell]using h.size,fun k d c=>(zR w p u k (by
  rintro rfl;rcases b with b|b
  ·exact c b
  omega)).trans (h.block k d c)⟩
theorem ae.put (b:p.block∈L\/a.heap.size<=p.block)(h:ae L a w)(u:Value):ae L a (w.setCell p u):=h.setCell b u
theorem ae.dW (h:w.grownBy w' row):ae row.toList w w':=
 ⟨h.os,h.tape,h.output,h.size,fun k b c=>h.block k b (fun e=>c (by simp[<-e]))⟩
theorem ae.grown (h:ae L a w)(b:w.grownBy w' row)(c:∀k,row=some k->k∈L\/a.heap.size<=k):ae L a w':=
 h.trans' (ae.dW b) fun i hi=>c i (by simpa using hi)
theorem ae.ah (h:Below B w w')(c:w.heap.size<=B):ae [] w w':=⟨h.os,h.tape,h.output,h.size,fun k b _=>h.block k (by omega)⟩
theorem ae.below (h:ae L w w')(c:B<=w.heap.size)(b:∀i,i∈L->B<=i):Below B w w':=
 ⟨h.os,h.tape,h.output,h.size,fun k d=>h.block k (by omega) (fun hi=>by have:=b k hi;omega)⟩
theorem ae.cell {L:List Nat}{w w':World}(h:ae L w w'){p:Addr}(b:p.block<w.heap.size)(c:p.block∉L):w'.cell? p=w.cell? p:=zF (h.block _ b c)
theorem ae.frozen (h:ae L w w')(b:p.block<w.heap.size)(c:p.block∉L):w'.frozen? p=w.frozen? p:=World.frozen?_of_block (h.block _ b c)
theorem af.only {b:Array Value}(h:af w g t b)(c:ae L w w')(d:g∉L):af w' g t b:=(c.block g h.lt d).trans h
theorem ae.own (h:ae L w w'){e:TypeId}{size:Nat}(c:w.ownsRow base e size v n xs)
 (i:∀g,v.ownBlock=some g->g∉L):w'.ownsRow base e size v n xs:=by
 obtain⟨d,b⟩:=c;refine⟨d, ?_⟩;rcases b with b|⟨g,cap,cur,hv,hg,hh,r⟩
 ·exact Or.inl b
 subst hv;exact Or.inr ⟨g,cap,cur,rfl,hg,(h.block g (yI hh) (i g rfl)).trans hh,r⟩
def cb (l:List UInt8):List Value:=l.map fun b=> .int .u8 b.toNat
theorem bs (l:List UInt8):(cb l).length=l.length:=List.length_map ..
theorem gq (l m:List UInt8):cb (l++m)=cb l++cb m:=Ym ..
theorem EH (l:List UInt8)(j:Nat):(cb l)[j]?=(l[j]?).map fun b=> .int .u8 b.toNat:=xV ..
theorem uU (l:List UInt8):∀u∈cb l,u.oneCell'=true:=by
 intro u hu;simp only[cb,xH]at hu;obtain⟨b,_,rfl⟩:=hu;rfl
theorem Tn (l:List UInt8)(k:Nat):cb (l.drop k)=(cb l).drop k:=by simp[cb]
theorem To (l:List UInt8)(k:Nat):cb (l.take k)=(cb l).take k:=by simp[cb]
theorem dI {e:TypeId}{size:Nat}{j:Array Value}(d:w.ownsRow base e size (.slice (some ⟨h,0,none⟩) n cap) n xs)(c:af w g t j)(l:e≠t):h≠g:=by
 rintro rfl;rcases d.2 with⟨i,_⟩|⟨o,p,m,b,_,k,_⟩
 ·cases i
 injection b with b;injection b with b;injection b with b;subst b;unfold af at c;rw[k]at c;injection c with c;injection c with _ ht;exact l ht
theorem rz {e:TypeId}{size:Nat}(c:w.ownsRow base e size (.slice (some ⟨h,0,none⟩) n cap) n xs):n<=cap/\cap<=9223372036854775807/\base<=h/\h<w.heap.size:=by
 rcases c.2 with⟨d,_⟩|⟨o,p,m,b,j,k,i,l,_⟩
 ·cases d
 injection b with b kD En;injection b with b;injection b with b;subst b;subst En;exact⟨i,by simpa[maxLen]using l,j,yI k⟩
theorem qg {e:TypeId}{size:Nat}(c:w.ownsRow base e size v n xs)(b:v≠ .slice none 0 0):∃h cap,v= .slice (some ⟨h,0,none⟩) n cap:=by
 rcases c.2 with⟨d,_⟩|⟨i,j,k,b,_⟩
 ·exact absurd d b
 exact⟨i,j,b⟩
theorem Ic (l:List UInt8)(s:ByteArray):(l.map fun b=>(b.toNat:Int)).foldl (fun r n=>r.push (UInt8.ofNat n.toNat)) s=⟨(s.data.toList++l).toArray⟩:=by
 induction l generalizing s with
 |nil=>cases s;simp
 |cons b t ih=>
  rw[List.map_cons,List.foldl_cons,ih];congr 1
  simp[ByteArray.push]
theorem CK {P:Program}(w:World)(src dst e:TypeId)(i:P.underlying src=some (.slice e))(d:P.underlying e=some (.int .u8))(hd:P.underlying dst=some .string)(a:Addr)(cap:Nat)(l:List UInt8)
 (h:∀j u,(cb l)[j]?=some u->w.cell? (a.add j)=some u):(convert src dst (.slice (some a) l.length cap)).run P w= .ok (.string ⟨l.toArray⟩) w:=by
 rw[Z3 w src dst e (some a) l.length cap i d hd];have k:cb l=(l.map fun b=>(b.toNat:Int)).map (Value.int .u8):=by simp[cb]
 have c:=run_loadCells_list (P:=P) (w:=w) a (cb l) h;rw[bs,k]at c;rw[run_bytesToString w a l.length cap _ c,Ic];simp
theorem sH {P:Program}{src dst e:TypeId}(d:P.underlying src=some (.slice e))(c:P.underlying e=some (.int .u8))(hd:P.underlying dst=some .string)
 (b:w.ownsRow base e 1 (.slice (some ⟨h,0,none⟩) l.length cap) l.length (cb l)):(convert src dst (.slice (some ⟨h,0,none⟩) l.length cap)).run P w= .ok (.string ⟨l.toArray⟩) w:=
 CK w src dst e d c hd _ cap l (b.cells rfl)
theorem _root_.Go.RowKit.Below.agk (b:B<=w.heap.size)(h:Below B a w)(o:Obj):Below B a (w.alloc o):=h.alloc b o
theorem _root_.Go.RowKit.Below.bJ (h:Below B a w)(n:Nat):Below B a (w.drewN n):=⟨h.os,h.tape,h.output,h.size,h.block⟩
theorem _root_.Go.World.ownsRow.bJ {e:TypeId}{size:Nat}(h:w.ownsRow base e size v n xs)(k:Nat):(w.drewN k).ownsRow base e size v n xs:=h
theorem sI (c:g<w.heap.size)(h:w.cell? ⟨g,i,none⟩=some v)(e d b:Obj):(((w.alloc e).alloc d).alloc b).cell? ⟨g,i,none⟩=some v:=by
 rw[zA _ _ _ (by simp;omega),zA _ _ _ (by simp;omega),zA _ _ _ (by simpa using c)];exact h
theorem CL (e:g<w.heap.size)(h:w.frozen? ⟨g,i,none⟩=false)(d c b:Obj):(((w.alloc d).alloc c).alloc b).frozen? ⟨g,i,none⟩=false:=by
 rw[(((((ae.refl [] w).alloc d).alloc c).alloc b)).frozen e (by simp)];exact h
theorem nS {a b:ByteArray}(h:b=a):Ending.returned (.string a)= .returned (.string b):=by rw[h]
def strOf :Value->Nat
 | .string y=>y.size
 |_=>0
@[simp] theorem Tp (y:ByteArray):strOf (.string y)=y.size:=rfl
theorem aT {a b:Bool}(h:b=a):Ending.returned (.bool a)= .returned (.bool b):=by rw[h]
theorem lN {k:IntKind}{a b:Int}(h:a=b):Ending.returned (.int k a)= .returned (.int k b):=by rw[h]
class fX (B:Nat) (w w':World):Prop where
 out:Below B w w'
 le:B<=w'.heap.size
instance fX.refl (w:World):fX w.heap.size w w:=⟨zl _ _,zg _⟩
instance fX.alloc {B:Nat}{w w':World} [h:fX B w w'](o:Obj):fX B w (w'.alloc o):=⟨h.out.alloc h.le o,zK h.le (by simp)⟩
instance fX.drew {B:Nat}{w w':World} [h:fX B w w']:fX B w w'.drew:=⟨h.out.drew,h.le⟩
instance fX.drewN {B:Nat}{w w':World} [h:fX B w w'](n:Nat):fX B w (w'.drewN n):=⟨h.out.bJ n,h.le⟩
theorem bD  [h:fX B w w']:Below B w w':=h.out
theorem WQ (b:B<=w.heap.size) [h:fX w.heap.size w w']:Below B w w':=h.out.mono b
theorem _root_.Go.RowKit.Below.up {b:World}(h:Below w.heap.size w b) [g:fX b.heap.size b w']:Below w.heap.size w w':=h.trans (g.out.mono h.size)
theorem _root_.Go.RowKit.Below.up' {b:World}(h:Below B w b)(c:B<=b.heap.size) [g:fX b.heap.size b w']:Below B w w':=h.trans (g.out.mono c)
class My (g:Nat) (L:List Nat):Prop where
 out:g∈L
instance My.here (g:Nat)(L:List Nat):My g (g::L):=⟨by simp⟩
instance My.there {g:Nat}{L:List Nat} [h:My g L](k:Nat):My g (k::L):=⟨by simp[h.out]⟩
class dX (L:List Nat) (a w:World):Prop where
 out:ae L a w
instance dX.refl (L:List Nat)(w:World):dX L w w:=⟨ae.refl L w⟩
instance dX.alloc {L:List Nat}{a w:World} [h:dX L a w](o:Obj):dX L a (w.alloc o):=⟨h.out.alloc o⟩
instance dX.drew {L:List Nat}{a w:World} [h:dX L a w]:dX L a w.drew:=⟨h.out.drew⟩
instance dX.drewN {L:List Nat}{a w:World} [h:dX L a w](n:Nat):dX L a (w.drewN n):=⟨h.out.drewN n⟩
instance dX.put {L:List Nat}{a w:World}{g:Nat} [h:dX L a w] [m:My g L](i:Nat)(n:Option Nat)(u:Value):dX L a (w.setCell ⟨g,i,n⟩ u):=⟨h.out.setCell (.inl m.out) u⟩
instance dX.amr {L:List Nat}{a w:World} [h:dX L a w](i:Nat)(n:Option Nat)(u:Value):dX L a (w.setCell ⟨a.heap.size,i,n⟩ u):=⟨h.out.setCell (.inr (zg _)) u⟩
instance dX.ams {L:List Nat}{a w:World} [h:dX L a w](i:Nat)(n:Option Nat)(u:Value):dX L a (w.setCell ⟨a.heap.size+1,i,n⟩ u):=⟨h.out.setCell (.inr (by simp)) u⟩
instance dX.amt {L:List Nat}{a w:World} [h:dX L a w](i:Nat)(n:Option Nat)(u:Value):dX L a (w.setCell ⟨a.heap.size+1+1,i,n⟩ u):=⟨h.out.setCell (.inr (by simp;omega)) u⟩
theorem CM  [h:dX L a w]:ae L a w:=h.out
theorem ae.up (h:ae L a w) [g:dX L w w']:ae L a w':=h.trans g.out
def ub (n:Int):UInt8:=UInt8.ofNat n.toNat
theorem bn (n:Nat)(h:n<256):(ub n).toNat=n:=by
 simp[ub];omega
theorem EI {P:Program}{src dst e:TypeId}(k:P.underlying src=some (.slice e))(i:P.underlying e=some (.int .u8))(hd:P.underlying dst=some .string)(w:World)(xs:List Int)(cap:Nat):
 (convert src dst (.slice (some ⟨w.heap.size,0,none⟩) xs.length cap)).run P (w.alloc (.cells (xs.map (Value.int .u8)).toArray e))= .ok (.string ⟨(xs.map ub).toArray⟩) (w.alloc (.cells (xs.map (Value.int .u8)).toArray e)):=by
 rw[Z3 _ src dst e _ xs.length cap k i hd];have c:=run_loadCells_list (P:=P) (w:=w.alloc (.cells (xs.map (Value.int .u8)).toArray e)) ⟨w.heap.size,0,none⟩ (xs.map (Value.int .u8)) (by
  intro j v d;have:=ZH (yP w (.cells (xs.map (Value.int .u8)).toArray e)) j v (by simpa using d);exact this)
 rw[List.length_map]at c;rw[run_bytesToString _ _ _ cap xs c];have h:∀(l:List Int) (s:ByteArray),l.foldl (fun r n=>r.push (UInt8.ofNat n.toNat)) s=⟨(s.data.toList++l.map ub).toArray⟩:=by
  intro l;induction l with
  |nil=>intro s;cases s;simp
  |cons b t ih=>
   intro s;rw[List.foldl_cons,ih];congr 1
   simp[ByteArray.push,ub]
 rw[h];simp
section
variable {P:Program} {src dst e:TypeId} (hs:P.underlying src=some (.slice e)) (he:P.underlying e=some (.int .u8)) (hd:P.underlying dst=some .string)
include hs he hd
theorem Pl (w:World)(a:Int):(convert src dst (.slice (some ⟨w.heap.size,0,none⟩) 1 1)).run P (w.alloc (.cells #[.int .u8 a] e))= .ok (.string ⟨#[ub a]⟩) (w.alloc (.cells #[.int .u8 a] e)):=EI hs he hd w [a] 1
end
structure Kept (E:TypeId)(base:Nat)(w w':World):Prop where
 below:Below base w w'
 other:∀(k:Nat) (o:Obj),w.heap[k]?=some o->(∀cs fr,o≠Obj.cells cs E fr)->w'.heap[k]?=some o
theorem Kept.refl (E:TypeId)(base:Nat)(w:World):Kept E base w w:=⟨zl _ _,fun _ _ h _=>h⟩
theorem Kept.trans {b c:World}(h:Kept E base a b)(k:Kept E base b c):Kept E base a c:=
 ⟨h.below.trans k.below,fun i o hi d=>k.other i o (h.other i o hi d) d⟩
theorem Kept.ah {b:World}(h:Below B a b)(c:a.heap.size<=B)(d:base<=a.heap.size):Kept E base a b:=
 ⟨h.mono (by omega),fun i o hi _=>(h.block i (by
  have:=(yd.1 hi).1;omega)).trans hi⟩
theorem Kept.alloc {E:TypeId}{base:Nat}{a w:World}(h:Kept E base a w)(b:base<=w.heap.size)(o:Obj):Kept E base a (w.alloc o):=
 h.trans (Kept.ah ((zl w.heap.size w).alloc (zg _) o) (zg _) b)
theorem Kept.drew (h:Kept E base a w):Kept E base a w.drew:=⟨h.below.drew,h.other⟩
theorem Kept.size (h:Kept E base a w):a.heap.size<=w.heap.size:=h.below.size
theorem Kept.mono {b:Nat}(h:Kept E base a w)(c:b<=base):Kept E b a w:=⟨h.below.mono c,h.other⟩
def bP (w:World)(base:Nat)(E:TypeId)(v:Value)(l:List UInt8):Prop:=
 ∃A cap,v= .slice A l.length cap/\l.length<=cap/\cap<=9223372036854775807/\
  ((A=none/\cap=0)\/∃g cur fr,A=some ⟨g,0,none⟩/\base<=g/\w.heap[g]?=some (.cells cur E fr)/\cur.size=cap/\cur.toList.take l.length=cb l/\(fr.2=0\/cap<=fr.1))
theorem bP.nil (w:World)(base:Nat)(E:TypeId):bP w base E (.slice none 0 0) []:=⟨none,0,rfl,by simp,by simp,.inl ⟨rfl,rfl⟩⟩
theorem bP.form (h:bP w base E v l):∃A cap,v= .slice A l.length cap/\l.length<=cap/\cap<=9223372036854775807:=by
 obtain⟨A,cap,c,b,d,_⟩:=h;exact⟨A,cap,c,b,d⟩
theorem bP.of_heap (h:bP w base E v l)(e:∀k,base<=k->k<w.heap.size->w'.heap[k]?=w.heap[k]?):bP w' base E v l:=by
 obtain⟨A,cap,c,d,i,b⟩:=h;refine⟨A,cap,c,d,i, ?_⟩;rcases b with b|⟨g,cur,fr,hA,hg,hh,r⟩
 ·exact .inl b
 exact .inr ⟨g,cur,fr,hA,hg,(e g hg (yd.1 hh).1).trans hh,r⟩
theorem bP.below (h:bP w base E v l)(c:Below w.heap.size w w'):bP w' base E v l:=h.of_heap fun k _ b=>c.block k b
theorem bP.alloc {w:World}{base:Nat}{E:TypeId}{v:Value}{l:List UInt8}(h:bP w base E v l)(o:Obj):bP (w.alloc o) base E v l:=h.below ((zl _ _).alloc (zg _) o)
theorem bP.drew (h:bP w base E v l):bP w.drew base E v l:=h
theorem bP.mono {c:Nat}(h:bP w base E v l)(j:c<=base):bP w c E v l:=by
 obtain⟨A,cap,d,e,i,b⟩:=h;refine⟨A,cap,d,e,i, ?_⟩;rcases b with b|⟨g,cur,fr,hA,hg,r⟩
 ·exact .inl b
 exact .inr ⟨g,cur,fr,hA,by omega,r⟩
theorem bP.only (h:bP w base E v l)(e:ae L w w')(k:∀g,g∈L->g<base\/∃d t c,w.heap[g]?=some (.cells d t c)/\t≠E):bP w' base E v l:=by
 obtain⟨A,cap,i,j,n,b⟩:=h;refine⟨A,cap,i,j,n, ?_⟩;rcases b with b|⟨g,cur,c,hA,hg,hh,r⟩
 ·exact .inl b
 refine .inr ⟨g,cur,c,hA,hg,(e.block g (yd.1 hh).1 fun m=> ?_).trans hh,r⟩;rcases k g m with h5|⟨d,t,fr',h5,h6⟩
 ·omega
 rw[hh]at h5;injection h5 with h5;injection h5 with _ h7;exact h6 h7.symm
theorem bP.own (h:w.ownsRow base E 1 v l.length (cb l)):bP w base E v l:=by
 obtain⟨p,b⟩:=h;rcases b with⟨b,o⟩|⟨g,cap,j,c,i,e,d,k,n,m⟩
 ·refine⟨none,0,by rw[b,o],by omega,by simp,.inl ⟨rfl,rfl⟩⟩
 exact⟨some ⟨g,0,none⟩,cap,c,d,by simpa[maxLen]using k,.inr ⟨g,j,(0,0),rfl,i,e,by simpa using n,by simpa using m,.inl rfl⟩⟩
theorem eL {d:Array Value}{b:Nat×Nat}(c:w.heap[g]?=some (.cells d E b))(e:b.2=0\/i<b.1):w.frozen? ⟨g,i,none⟩=false:=by
 obtain⟨h,hi⟩:=b;simp[World.frozen?,c];simp at e;omega
theorem bP.cells (h:bP w base E (.slice A l.length cap) l):∀a,A=some a->∀j u,(cb l)[j]?=some u->w.cell? (a.add j)=some u:=by
 obtain⟨y,x,i,s,z,c⟩:=h;injection i with d _ hc;subst d;subst hc;intro a b j u hu;rcases c with⟨c,_⟩|⟨g,q,B,d,o,k,r,m,p⟩
 ·rw[c]at b;cases b
 rw[d]at b;injection b with b;subst b;have n:(⟨g,0,none⟩:Addr).add j=⟨g,j,none⟩:=by unfold Addr.add;split<;>simp_all
 have e:j<l.length:=by have:=(xB.1 hu).1;rwa [bs]at this
 rw[n];simp only[World.cell?,k];rw[<-m,yA e]at hu;simpa using hu
theorem bP.str {P:Program}{src dst e:TypeId}(i:P.underlying src=some (.slice e))(d:P.underlying e=some (.int .u8))(hd:P.underlying dst=some .string)
 (h:bP w base E (.slice A l.length cap) l):(convert src dst (.slice A l.length cap)).run P w= .ok (.string ⟨l.toArray⟩) w:=by
 cases A with
 |none=>
  obtain⟨o,p,j,n,q,b⟩:=h;injection j with c _ hc;subst c;subst hc;rcases b with⟨_,b⟩|⟨g,m,r,c,_⟩
  ·subst b;have k:l= []:=zo (by omega);subst k;rw[Z3 w src dst e none _ 0 i d hd];rfl
  cases c
 |some a=>exact CK w src dst e i d hd a cap l (h.cells a rfl)
theorem bP.len (h:bP w base E (.slice A n cap) l):n=l.length/\n<=cap/\cap<=9223372036854775807:=by
 obtain⟨e,i,b,c,d,_⟩:=h;injection b with hA hn hc;subst hc;subst hn;exact⟨rfl,c,d⟩
theorem bP.EJ {P:Program}{src dst e:TypeId}(c:P.underlying src=some (.slice e))(b:P.underlying e=some (.int .u8))(hd:P.underlying dst=some .string)
 (h:bP w base E (.slice A n cap) l):(convert src dst (.slice A n cap)).run P w= .ok (.string ⟨l.toArray⟩) w:=by
 obtain⟨d,_⟩:=h.len;subst d;exact h.str c b hd
theorem bP.conv (w:World)(base:Nat)(E:TypeId)(s:ByteArray)(e:base<=w.heap.size)(b:s.size<=9223372036854775807):bP (Lib.bytesWorld w E s) base E (.slice (some ⟨w.heap.size,0,none⟩) s.size (grownCap w s.size 0 E)) s.data.toList:=by
 have d:=grownCap_ge w s.size 0 E;have c:=ZN w s.size 0 E (by simpa[maxLen]using b);have hz:(Lib.bytesCells w E s).size=grownCap w s.size 0 E:=by simp[Lib.bytesCells];omega
 refine⟨_,_,by rw[aa],by rw[aa];exact d,by simpa[maxLen]using c,.inr ⟨w.heap.size,Lib.bytesCells w E s,_,rfl,e,Lib.bytesWorld_at_new w E s,hz, ?_,.inr (by rw[hz];exact zg _)⟩⟩;simp[Lib.bytesCells,cb]
theorem jh {o:Nat}{b:Array Value}{c:Nat×Nat}(v:Value)(h:w.heap[g]?=some (.cells b E c)):(w.setCell ⟨g,o,none⟩ v).heap[g]?=some (.cells (b.setIfInBounds o v) E c):=by
 simp[World.setCell,Zt,h]
theorem iz {i:Nat×Nat}:∀(c:List Value) (o:Nat) (w:World) (b:Array Value),w.heap[g]?=some (.cells b E i)->o+c.length<=b.size->
 ∃d,(w.setCells g o c).heap[g]?=some (.cells d E i)/\d.size=b.size/\d.toList.take (o+c.length)=b.toList.take o++c
 | [],o,w,b,h,_=>⟨b,h,rfl,by simp⟩
 |v::c,o,w,b,h,hl=>by
  simp only[zy]at hl;obtain⟨d,j,k,l⟩:=iz c (o+1) (w.setCell ⟨g,o,none⟩ v) (b.setIfInBounds o v) (jh v h) (by simp;omega);refine⟨d,j,by simpa using k, ?_⟩;rw[zy,show o+(c.length+1)=o+1+c.length from by omega,l];have e:(b.setIfInBounds o v).toList.take (o+1)=b.toList.take o++ [v]:=by
   rw[ZU,yt (by simp;omega),List.getElem_set_self,List.take_set_of_le (zg _)]
  rw[e,zB];rfl
theorem iA (w:World)(g o:Nat)(b:List Value):(w.setCells g o b).heap.size=w.heap.size:=by
 induction b generalizing w o with
 |nil=>rfl
 |cons v b ih=>rw[World.setCells,ih];simp[World.setCell]
theorem kH (w:World)(g o:Nat)(b:List Value):(w.setCells g o b).tape=w.tape:=by
 induction b generalizing w o with
 |nil=>rfl
 |cons v b ih=>rw[World.setCells,ih];rfl
theorem oG {o:Nat}{i:Array Value}{e:Nat×Nat}(h:w.heap[g]?=some (.cells i E e))(m:base<=g)(c:List Value):Kept E base w (w.setCells g o c):=by
 have d:∀k,k≠g->(w.setCells g o c).heap[k]?=w.heap[k]?:=by
  intro k b;by_cases l:k<w.heap.size
  ·exact ZV w g o c l b
  rw[xT (by rw[iA];omega),xT (by omega)]
 refine⟨⟨World.os_setCells w g o c,kH w g o c,Yo w g o c,by rw[iA];exact zg _,fun k b=>d k (by omega)⟩,fun k n b j=> ?_⟩;rw[d k (by rintro rfl;rw[h]at b;injection b with b;exact j _ _ b.symm)];exact b
theorem bP.at_ (h:bP w base E (.slice (some ⟨g,0,none⟩) n cap) l)(e:k<l.length):w.cell? ⟨g,k,none⟩=some (.int .u8 (l.getD k 0).toNat)/\w.frozen? ⟨g,k,none⟩=false/\base<=g/\g<w.heap.size:=by
 obtain⟨q,y,j,x,z,c⟩:=h;injection j with b hn hc;subst b;subst hc;subst hn;rcases c with⟨c,_⟩|⟨u,r,A,b,m,d,s,o,p⟩
 ·cases c
 injection b with b;injection b with b;subst b;refine⟨?_,eL d (by rcases p with h|h;exact .inl h;exact .inr (by omega)),m,(yd.1 d).1⟩;have i:(cb l)[k]?=some (.int .u8 (l.getD k 0).toNat):=by rw[EH,zx e,zw,zx e];rfl
 rw[<-o,yA e]at i;simp only[World.cell?,d];simpa using i
theorem bP.set (h:bP w base E (.slice (some ⟨g,0,none⟩) n cap) l)(z:k<l.length)(b:UInt8):bP (w.setCell ⟨g,k,none⟩ (.int .u8 b.toNat)) base E (.slice (some ⟨g,0,none⟩) n cap) (l.set k b):=by
 obtain⟨u,A,e,o,r,d⟩:=h;injection e with c hn hc;subst c;subst hc;subst hn;rcases d with⟨d,_⟩|⟨y,x,s,c,j,i,m,p,q⟩
 ·cases d
 injection c with c;injection c with c;subst c;refine⟨_,cap,by rw[Zh],by rw[Zh];exact o,r,.inr ⟨g,_,s,rfl,j,jh _ i,by simpa using m, ?_,q⟩⟩;rw[Zh,ZU,List.take_set,p];simp[cb,List.map_set]
theorem Kept.store {d:Array Value}{e:Nat×Nat}(h:Kept E base a w)(b:w.heap[g]?=some (.cells d E e))(c:base<=g)(v:Value):Kept E base a (w.setCell ⟨g,k,none⟩ v):=
 h.trans (oG (o:=k) b c [v])
theorem bP.block (h:bP w base E (.slice (some ⟨g,0,none⟩) n cap) l):∃d e,w.heap[g]?=some (.cells d E e)/\base<=g:=by
 obtain⟨r,s,i,p,x,c⟩:=h;injection i with b _ hc;subst b;rcases c with⟨c,_⟩|⟨o,d,e,b,k,j,m,q,u⟩
 ·cases c
 injection b with b;injection b with b;subst b;exact⟨d,e,j,k⟩
theorem uV (n:Nat):(madeCells (Value.int .u8 0).cells (n*1)).toList=cb (List.replicate n 0):=by
 have b:(Value.int .u8 0).cells= #[.int .u8 0]:=rfl;rw[b,xZ];apply List.ext_getElem
 ·simp[madeCells,cb]
 intro i c d;simp[madeCells,cb,Nat.mod_one]
theorem bP.append {P:Program}(h:bP w base E v l)(t c ty:TypeId)(i:TypeInfo)(B:P.underlying t=some (.slice E))(hi:P.info? E=some i)(hz:i.zero=some (.int .u8 0))(k:i.size=1)(W:i.bytes=1)
 (d:Value) (m:List UInt8) (X:Src P 1 c d m.length (cb m) w) (J:base<=w.heap.size) (Y:l.length+m.length<=140737488355328):
 ∃D w',(Builtin.append_ #[t,c] ty #[v,d]).run P w= .ok D w'/\bP w' base E D (l++m)/\Kept E base w w':=by
 obtain⟨A,cap,rfl,L,G,I⟩:=h;have u:Src P i.size c d m.length (cb m) w:=by rw[k];exact X
 by_cases F:l.length+m.length<=cap
 ·rcases I with⟨b,z⟩|⟨g,q,C,b,n,e,y,s,p⟩
  ·subst b;subst z;have r:l= []:=zo (by omega);have K:m= []:=zo (by omega);subst r;subst K;exact⟨_,w,Yp w t c ty E i B hi none 0 0 (zg _) d u,bP.nil w base E,Kept.refl E base w⟩
  subst b;have o:=run_append_room_src (P:=P) w t c ty E i B hi g 0 l.length cap d m.length (cb m) u F
   (by
    intro j x;rw[bs]at x;have:0+l.length*i.size+j<q.size:=by rw[k,y];omega
    simp only[World.cell?,e];rw[ZW this];rfl)
   (by
    intro j x;rw[bs]at x;exact eL e (by rw[k];rcases p with h|h;exact .inl h;exact .inr (by omega)))
  rw[k,xZ,zG]at o;obtain⟨N,M,Z,H⟩:=iz (cb m) l.length w q e (by rw[bs];omega);refine⟨_,_,o,⟨_,cap,by rw[zj],by rw[zj];exact F,G,.inr ⟨g,N,C,rfl,n,M,by omega, ?_,p⟩⟩,oG e n _⟩;rw[zj,gq];rw[bs,s]at H;exact H
 have S:(Builtin.firstCells i.size l.length (.slice A l.length cap)).run P w.drew= .ok (cb l).toArray w.drew:=by
  rcases I with⟨b,z⟩|⟨g,q,C,b,n,e,y,s,p⟩
  ·subst b;subst z;have r:l= []:=zo (by omega);subst r;exact run_firstCells_none w.drew i.size 0 0 0
  have R:=bP.cells (w:=w) (base:=base) (E:=E) (A:=A) (cap:=cap) (l:=l) ⟨A,cap,rfl,L,G,.inr ⟨g,q,C,b,n,e,y,s,p⟩⟩ ⟨g,0,none⟩ b;subst b;exact run_firstCells_some w.drew i.size l.length _ l.length cap (cb l) (by rw[bs,k,xZ]) R
 have O:Builtin.nextslicecap (l.length+m.length) cap*i.bytes<=281474976710656:=by
  rw[W];exact growslice_fits (by omega) (by omega)
 have o:=run_append_grow_src (P:=P) w t c ty E i (.int .u8 0) B hi hz A l.length cap (cb l) S d m.length (cb m) u (by omega) (by omega) O;have U:=grownCap_ge w (l.length+m.length) cap E;have g2:=ZN w (l.length+m.length) cap E (by simp[maxLen];omega);refine⟨_,_,o,⟨_,_,by rw[zj],by rw[zj];exact U,by simpa[maxLen]using g2,.inr ⟨w.heap.size,_,(0,0),rfl,J,yP w.drew _, ?_, ?_,.inl rfl⟩⟩,((Kept.refl E base w).drew.alloc (by simpa using J) _)⟩
 ·simp only[Array.size_append,ZZ,zj,bs,size_zeroCells];have:(Value.int .u8 0).cells.size=1:=rfl;rw[this];omega
 rw[Array.toList_append,zj,zW (by simp[bs]),gq];exact zv (by simp[bs])
theorem Kept.Ks (h:w.grownBy w' none)(c:base<=w.heap.size):Kept E base w w':=
 ⟨⟨h.os,h.tape,h.output,h.size,fun k b=>h.block k (by omega) (by simp)⟩,fun k o b _=>(h.block k (yd.1 b).1 (by simp)).trans b⟩
theorem aQ {P:Program}{a:Act}(r:o.guard=none)(s x:Operand)(t b:TypeId)
 (z:o.op= .call {callee:= .builtin .append,args:= #[s,x],argTypes:= #[t,b]}) (base:Nat) (E:TypeId) (i:TypeInfo) (y:P.underlying t=some (.slice E)) (hi:P.info? E=some i) (hz:i.zero=some (.int .u8 0)) (C:i.size=1) (G:i.bytes=1)
   (A:a.eval s=v) (h:bP w base E v l) (c:Value) (m:List UInt8) (hx:a.eval x=c) (H:Src P 1 b c m.length (cb m) w) (F:base<=w.heap.size) (p:l.length+m.length<=140737488355328)
 (D:∀(e:Option Addr) (j d:Nat) w',bP w' base E (.slice e j d) (l++m)->Kept E base w w'->wpList P ops Q rest (a.put o.dst (.slice e j d)) w'):wpList P ops Q (o::rest) a w:=by
 refine wpList_plain r fun K q=> ?_
 obtain⟨I,w',u,k,n⟩:=h.append (P:=P) t b o.type i y hi hz C G c m H F p;obtain⟨e,d,B,_⟩:=k.form;unfold Oper.wp;simp[execOp,z,resolve,invoke,builtin,A,hx,u,Result.andThen];subst B;exact q _ _ (D _ _ _ w' k n)
theorem ka {P:Program}{d h:TypeId}(i:P.underlying d=some (.slice h))(w:World)(E:TypeId)(b:Array Value)(m:List UInt8)(c:Nat)(e:b.toList=cb m):Src P 1 d (.slice (some ⟨w.heap.size,0,none⟩) m.length c) m.length (cb m) (w.alloc (.cells b E)):=
 Src.ofSlice _ i _ _ _ _ (by rw[bs,xZ]) (fun j u hu=>ZH (yP w (.cells b E)) j u (by rw[<-e]at hu;simpa using hu)) (uU m)
theorem ji {P:Program}{b:TypeId}(c:P.underlying b=some .string)(w:World)(s:ByteArray):Src P 1 b (.string s) s.data.toList.length (cb s.data.toList) w:=by
 have:=Src.ofString (P:=P) w c s;rw[aa];exact this
theorem Kt {P:Program}{e k:TypeId}(d:P.underlying e=some (.slice k)){m:List UInt8}(h:bP w base E v m):Src P 1 e v m.length (cb m) w:=by
 obtain⟨A,cap,rfl,o,q⟩:=h.form;cases A with
 |none=>
  obtain⟨l,p,i,_,_,b⟩:=h;injection i with c _ hc;subst c;subst hc;rcases b with⟨_,b⟩|⟨g,n,r,c,_⟩
  ·subst b;have j:m= []:=zo (by omega);subst j;exact Src.ofNil w d 0
  cases c
 |some ad=>exact Src.ofSlice w d ad _ _ _ (by rw[bs,xZ]) (h.cells ad rfl) (uU m)
theorem o6 {a:Int}(h:a=x)(hx:x<256):(#[Value.int .u8 a]:Array Value).toList=cb [ub x]:=by
 subst h;simp[cb,bn x hx]
theorem Pm {a b:Int}{y:Nat}(h:a=x)(hx:x<256)(d:b=y)(c:y<256):(#[Value.int .u8 a,.int .u8 b]:Array Value).toList=cb [ub x,ub y]:=by
 subst h;subst d;simp[cb,bn x hx,bn y c]
theorem ue {P:Program}{d i:TypeId}(j:P.underlying d=some (.slice i))(w:World)(E:TypeId)(b:Array Value)(m:List UInt8)(c g:Nat)(e:g=w.heap.size)(h:b.toList=cb m):Src P 1 d (.slice (some ⟨g,0,none⟩) m.length c) m.length (cb m) (w.alloc (.cells b E)):=by
 subst e;exact ka j w E b m c h
theorem bP.cH (h:bP w base E v l):∃A n cap,v= .slice A n cap/\Hid (n=l.length)/\n<=cap/\cap<=9223372036854775807:=by
 obtain⟨A,cap,c,b,d⟩:=h.form;exact⟨A,_,cap,c,za rfl,b,d⟩
theorem af.kept {b:Array Value}(h:af w g t b)(i:Kept E base w w')(d:t≠E):af w' g t b:=i.other g _ h (by
 intro c f e;injection e with _ e2;exact d e2)
theorem af.ag {b:Array Value}(h:af w g t b)(d:Below B w w')(c:g<B):af w' g t b:=(d.block g c).trans h
theorem aZ {a b c:Value}(h:af w g t #[a,b,c]):w.cell? ⟨g,0,none⟩=some a/\w.cell? ⟨g,1,none⟩=some b/\w.cell? ⟨g,2,none⟩=some c/\w.frozen? ⟨g,0,none⟩=false/\w.frozen? ⟨g,1,none⟩=false/\w.frozen? ⟨g,2,none⟩=false:=
 ⟨h.cell 0,h.cell 1,h.cell 2,h.frozen 0,h.frozen 1,h.frozen 2⟩
structure mH (w w':World)(v v':Value):Prop where
 grown:w.grownBy w' v.ownBlock
 own:v'.ownBlock=v.ownBlock\/∃g,v'.ownBlock=some g/\w.heap.size<=g
theorem mH.refl (w:World)(v:Value):mH w w v v:=⟨World.grownBy.refl _ _,.inl rfl⟩
theorem mH.size {v':Value}(h:mH w w' v v'):w.heap.size<=w'.heap.size:=h.grown.size
theorem mH.trans {b c:World}{i l:Value}(h:mH a b v i)(k:mH b c i l):mH a c v l:=by
 refine⟨h.grown.andThen k.grown fun j d=> ?_, ?_⟩
 ·rcases h.own with e|⟨g,e,hg⟩
  ·exact .inr (by rw[<-e,d])
  rw[e]at d;injection d with d;exact .inl (by omega)
 rcases k.own with e|⟨g,e,hg⟩
 ·rcases h.own with e2|⟨g2,e2,tN⟩
  ·exact .inl (e.trans e2)
  exact .inr ⟨g2,e.trans e2,tN⟩
 exact .inr ⟨g,e,by have:=h.size;omega⟩
theorem dE {b:World}(h:Below a.heap.size a b):a.grownBy b none:=⟨h.os,h.tape,h.output,h.size,fun k c _=>h.block k c⟩
theorem kd {b:World}(h:a.grownBy b none)(r:Option Nat):a.grownBy b r:=⟨h.os,h.tape,h.output,h.size,fun k c _=>h.block k c (by simp)⟩
theorem mH.ahead {b c:World}(h:Below a.heap.size a b)(k:mH b c v d):mH a c v d:=(show mH a b v v from⟨kd (dE h) _,.inl rfl⟩).trans k
theorem mH.behind {b c:World}(h:mH a b v d)(k:Below b.heap.size b c):mH a c v d:=h.trans (show mH b c d d from⟨kd (dE k) _,.inl rfl⟩)
theorem mH.below {b c:World}(h:Below B a b)(k:mH b c v d)(i:B<=b.heap.size)(e:∀g,v.ownBlock=some g->B<=g):Below B a c:=h.grown k.grown i e
theorem mH.block {b:World}{i:Value}(h:mH a b v i)(d:k<a.heap.size)(c:v.ownBlock≠some k):b.heap[k]?=a.heap[k]?:=h.grown.block k d (fun e=>c e.symm)
theorem bP.ge (h:bP w base E v l):∀g,v.ownBlock=some g->base<=g/\g<w.heap.size/\∃c d,w.heap[g]?=some (.cells c E d):=by
 obtain⟨A,cap,rfl,n,o,j⟩:=h;intro g i;rcases j with⟨b,_⟩|⟨m,c,d,b,k,e,_⟩
 ·subst b;cases i
 subst b;have:m=g:=by simpa[Value.ownBlock]using i
 subst this;exact⟨k,yI e,c,d,e⟩
theorem bP.dI {c:Array Value}{j:Nat×Nat}(h:bP w base E v l)(d:w.heap[g]?=some (.cells c t j))(i:t≠E):v.ownBlock≠some g:=by
 intro e;obtain⟨_,_,k,m,b⟩:=h.ge g e;rw[d]at b;injection b with b;injection b with _ b;exact i b
theorem bP.ag (h:bP w base E v l)(d:∀k,k<w.heap.size->v.ownBlock=some k->w'.heap[k]?=w.heap[k]?):bP w' base E v l:=by
 obtain⟨A,cap,rfl,c,e,b⟩:=h;refine⟨A,cap,rfl,c,e, ?_⟩;rcases b with b|⟨g,cur,fr,hA,hg,hh,r⟩
 ·exact .inl b
 exact .inr ⟨g,cur,fr,hA,hg,(d g (yI hh) (by subst hA;rfl)).trans hh,r⟩
theorem af.Tq {b:Array Value}(h:af w g t b)(c:mH w w' v d)(e:v.ownBlock≠some g):af w' g t b:=(c.block h.lt e).trans h
theorem bP.Tr {P:Program}(h:bP w base E v l)(t c ty:TypeId)(i:TypeInfo)(F:P.underlying t=some (.slice E))(hi:P.info? E=some i)(hz:i.zero=some (.int .u8 0))(o:i.size=1)(Z:i.bytes=1)
 (d:Value) (m:List UInt8) (hs:Src P 1 c d m.length (cb m) w) (Y:base<=w.heap.size) (aa:l.length+m.length<=140737488355328):
 ∃s w',(Builtin.append_ #[t,c] ty #[v,d]).run P w= .ok s w'/\bP w' base E s (l++m)/\mH w w' v s:=by
 obtain⟨A,cap,rfl,M,I,K⟩:=h;have y:Src P i.size c d m.length (cb m) w:=by rw[o];exact hs
 by_cases H:l.length+m.length<=cap
 ·rcases K with⟨b,D⟩|⟨g,r,G,b,B,n,C,x,q⟩
  ·subst b;subst D;have u:l= []:=zo (by omega);have L:m= []:=zo (by omega);subst u;subst L;exact⟨_,w,Yp w t c ty E i F hi none 0 0 (zg _) d y,bP.nil w base E,mH.refl _ _⟩
  subst b;have p:=run_append_room_src (P:=P) w t c ty E i F hi g 0 l.length cap d m.length (cb m) y H
   (by
    intro j z;rw[bs]at z;have:0+l.length*i.size+j<r.size:=by rw[o,C];omega
    simp only[World.cell?,n];rw[ZW this];rfl)
   (by
    intro j z;rw[bs]at z;exact eL n (by rw[o];rcases q with h|h;exact .inl h;exact .inr (by omega)))
  rw[o,xZ,zG]at p;obtain⟨O,N,c2,J⟩:=iz (cb m) l.length w r n (by rw[bs];omega);refine⟨_,_,p,⟨_,cap,by rw[zj],by rw[zj];exact H,I,.inr ⟨g,O,G,rfl,B,N,by omega, ?_,q⟩⟩,⟨World.os_setCells _ _ _ _,kH _ _ _ _,Yo _ _ _ _,by rw[iA];exact zg _,fun k R cF=>ZV w g l.length (cb m) R (fun e=>cF (by subst e;rfl))⟩,.inl rfl⟩;rw[zj,gq];rw[bs,x]at J;exact J
 have W:(Builtin.firstCells i.size l.length (.slice A l.length cap)).run P w.drew= .ok (cb l).toArray w.drew:=by
  rcases K with⟨b,D⟩|⟨g,r,G,b,B,n,C,x,q⟩
  ·subst b;subst D;have u:l= []:=zo (by omega);subst u;exact run_firstCells_none w.drew i.size 0 0 0
  have U:=bP.cells (w:=w) (base:=base) (E:=E) (A:=A) (cap:=cap) (l:=l) ⟨A,cap,rfl,M,I,.inr ⟨g,r,G,b,B,n,C,x,q⟩⟩ ⟨g,0,none⟩ b;subst b;exact run_firstCells_some w.drew i.size l.length _ l.length cap (cb l) (by rw[bs,o,xZ]) U
 have S:Builtin.nextslicecap (l.length+m.length) cap*i.bytes<=281474976710656:=by
  rw[Z];exact growslice_fits (by omega) (by omega)
 have p:=run_append_grow_src (P:=P) w t c ty E i (.int .u8 0) F hi hz A l.length cap (cb l) W d m.length (cb m) y (by omega) (by omega) S;have X:=grownCap_ge w (l.length+m.length) cap E;have g2:=ZN w (l.length+m.length) cap E (by simp[maxLen];omega);refine⟨_,_,p,⟨_,_,by rw[zj],by rw[zj];exact X,by simpa[maxLen]using g2,.inr ⟨w.heap.size,_,(0,0),rfl,Y,yP w.drew _, ?_, ?_,.inl rfl⟩⟩,kd (dE ((zl w.heap.size w).drew.alloc (by simp) _)) _,.inr ⟨w.heap.size,rfl,zg _⟩⟩
 ·simp only[Array.size_append,ZZ,zj,bs,size_zeroCells];have:(Value.int .u8 0).cells.size=1:=rfl;rw[this];omega
 rw[Array.toList_append,zj,zW (by simp[bs]),gq];exact zv (by simp[bs])
theorem mS {P:Program}{a:Act}{K:Act->World->Prop}(s x:Operand)(t d:TypeId)
 (u:o.op= .call {callee:= .builtin .append,args:= #[s,x],argTypes:= #[t,d]}) (base:Nat) (E:TypeId) (i:TypeInfo) (r:P.underlying t=some (.slice E)) (hi:P.info? E=some i) (hz:i.zero=some (.int .u8 0)) (A:i.size=1) (D:i.bytes=1)
   (y:a.eval s=v) (h:bP w base E v l) (j:Value) (m:List UInt8) (hx:a.eval x=j) (F:Src P 1 d j m.length (cb m) w) (C:base<=w.heap.size) (p:l.length+m.length<=140737488355328)
 (B:∀(c:Option Addr) (e b:Nat) w',bP w' base E (.slice c e b) (l++m)->mH w w' v (.slice c e b)->K (a.put o.dst (.slice c e b)) w'):Oper.wp P o a w K Q:=by
 obtain⟨G,w',q,k,n⟩:=h.Tr (P:=P) t d o.type i r hi hz A D j m F C p;obtain⟨c,b,z,_⟩:=k.form;unfold Oper.wp;simp[execOp,u,resolve,invoke,builtin,y,hx,q,Result.andThen];subst z;exact B _ _ _ w' k n
theorem cz {P:Program}{a:Act}(q:o.guard=none)(s x:Operand)(t e:TypeId)
 (u:o.op= .call {callee:= .builtin .append,args:= #[s,x],argTypes:= #[t,e]}) (base:Nat) (E:TypeId) (i:TypeInfo) (r:P.underlying t=some (.slice E)) (hi:P.info? E=some i) (hz:i.zero=some (.int .u8 0)) (A:i.size=1) (D:i.bytes=1)
   (y:a.eval s=v) (h:bP w base E v l) (j:Value) (m:List UInt8) (hx:a.eval x=j) (F:Src P 1 e j m.length (cb m) w) (C:base<=w.heap.size) (n:l.length+m.length<=140737488355328)
 (B:∀(d:Option Addr) (b c:Nat) w',bP w' base E (.slice d b c) (l++m)->mH w w' v (.slice d b c)->wpList P ops Q rest (a.put o.dst (.slice d b c)) w'):wpList P ops Q (o::rest) a w:=
 wpList_plain q fun _ p=>mS s x t e u base E i r hi hz A D y h j m hx F C n fun d b c w' z k=>p _ _ (B d b c w' z k)
theorem rA {P:Program}{a:Act}{K:Act->World->Prop}{y:Prop}(p:o.guard=none)(s x:Operand)(t b:TypeId)
 (r:o.op= .call {callee:= .builtin .append,args:= #[s,x],argTypes:= #[t,b]}) (base:Nat) (E:TypeId) (i:TypeInfo) (q:P.underlying t=some (.slice E)) (hi:P.info? E=some i) (hz:i.zero=some (.int .u8 0)) (z:i.size=1) (C:i.bytes=1)
   (u:a.eval s=v) (h:bP w base E v l) (d:Value) (m:List UInt8) (hx:a.eval x=d) (D:Src P 1 b d m.length (cb m) w) (B:base<=w.heap.size) (k:l.length+m.length<=140737488355328)
 (A:∀(j:Option Addr) (c e:Nat) w',bP w' base E (.slice j c e) (l++m)->mH w w' v (.slice j c e)->K (a.put o.dst (.slice j c e)) w'):
 if Region.wanted o (yielded ops a.tmps)=true then Oper.wp P o a w K Q else y:=by
 have n:Region.wanted o (yielded ops a.tmps)=true:=by simp[Region.wanted,p]
 rw[zi n];exact mS s x t b r base E i q hi hz z C u h d m hx D B k A
theorem o7 {b:UInt8}(c:s.data.toList[k]?=some b):∃h:k<s.size,s[k]=b:=by
 have h:k<s.size:=by
  have:=(xB.1 c).1;simpa using this
 refine⟨h, ?_⟩;rw[gH s k h]at c;injection c
theorem kY {size f b c:Nat}{out d:List UInt8}(h:k<s.size)(e:s[k].toNat=b)(i:cd s size k b out=(0,c,d)):gX s size (f+1) k out=gX s size f c d:=by
 rw[gX,Yb h,e,i,zi rfl]
def aR (n:Nat):List UInt8:=if n<128 then [ub n]else ub (n%128+128:Nat)::aR (n/128)
termination_by n
theorem ie (h:n<128):aR n= [ub n]:=by rw[aR,zi h]
theorem jv (h:¬n<128):aR n=ub (n%128+128:Nat)::aR (n/128):=by rw[aR,zh h]
theorem EK (n:Nat):1<=(aR n).length:=by
 by_cases h:n<128
 ·simp[ie h]
 simp[jv h]
theorem bB (k:Nat):∀n,n<128^k->1<=k->(aR n).length<=k:=by
 induction k with
 |zero=>intro n _ h;omega
 |succ k ih=>
  intro n b _;by_cases h:n<128
  ·simp[ie h]
  rw[jv h,zy];rcases Zi k with h0|h0
  ·subst h0;simp at b;omega
  have:=ih (n/128) (by rw[Zm]at b;exact Za (by rw[Zn];exact b)) h0;omega
theorem Mz (n:Nat):∀(s:ByteArray) (pre rest:List UInt8) (i m:Nat),s.data.toList=pre++(aR n++rest)->pre.length=i->i<=9->n<2^(64-7*i)->(i=0\/0<n)->
 cw s (10-i) i m=(m+n*2^(7*i),i+(aR n).length,0):=by
 induction n using Nat.strongRecOn with
 |ind n ih=>
  intro s pre rest i m d j hi l u;rw[show 10-i=(9-i)+1 from by omega];have r:i=9->n<=1:=by
   intro h;subst h;have:(2:Nat)^(64-7*9)=2:=by decide
   omega
  by_cases h:n<128
  ·rw[ie h]at d⊢;obtain⟨g,e⟩:=o7 (s:=s) (k:=i) (b:=ub n) (by rw[d,yl (by omega),j];simp);have c:s[i].toNat=n:=by rw[e,bn n (by omega)]
   rw[jD s _ i m g (by rw[c];omega) (by rw[c];exact h),c,Nat.mod_eq_of_lt h];simp
  rw[jv h]at d⊢;obtain⟨g,e⟩:=o7 (s:=s) (k:=i) (b:=ub (n%128+128:Nat)) (by rw[d,yl (by omega),j];simp);have c:s[i].toNat=n%128+128:=by rw[e,bn _ (by omega)]
  rw[jE s _ i m g (by rw[c];omega) (by rw[c];omega),c];have w:7*i+7<=64:=by
   rcases xG i 9 with h9|h9
   ·omega
   have:=r (by omega);omega
  have p:2^(64-7*i)=2^(64-7*(i+1))*128:=by
   rw[show 64-7*i=(64-7*(i+1))+7 from by omega,xY]
  have hd:n/128<2^(64-7*(i+1)):=Za (by rw[Zn,<-p];exact l);have:=ih (n/128) (by omega) s (pre++ [ub (n%128+128:Nat)]) rest (i+1) (m+(n%128+128)%128*2^(7*i)) (by rw[d];simp) (by simp;omega) (by omega) hd (Or.inr (by omega));rw[show 9-i=10-(i+1)from by omega,this];have o:2^(7*(i+1))=128*2^(7*i):=by rw[show 7*(i+1)=7+7*i from by omega,xY]
  have q:m+(n%128+128)%128*2^(7*i)+n/128*2^(7*(i+1))=m+n*2^(7*i):=by
   rw[o,show(n%128+128)%128=n%128 from by omega,<-Nat.mul_assoc,yi,<-Nat.add_mul,show n%128+n/128*128=n from by omega]
  rw[q];exact ZB rfl (ZB (by simp only[zy];omega) rfl)
theorem ke (n:Nat)(s:ByteArray)(rest:List UInt8)(b:s.data.toList=aR n++rest)(c:n<18446744073709551616):aA s=(n,(aR n).length,0):=by
 have:=Mz n s [] rest 0 0 (by simpa using b) rfl (by omega) (by simpa using c) (Or.inl rfl);simpa[aA]using this
def mt (L:List UInt8)(j i:Nat):Nat->Nat
 |0=>0
 |f+1=>if i<L.length/\L[j]?=L[i]? then mt L (j+1) (i+1) f+1 else 0
def Ie (L:List UInt8)(i:Nat):Nat->Option Nat
 |0=>none
 |j+1=>if 4<=mt L j i 64 then some j else Ie L i j
def ig (l:List UInt8):List UInt8:=
 if l.length=0 then []else if l.length<=60 then ub (4*(l.length-1):Nat)::l
 else if l.length<=256 then 240::ub (l.length-1:Nat)::l
 else 244::ub ((l.length-1)%256:Nat)::ub ((l.length-1)/256:Nat)::l
def kZ (n d:Nat):List UInt8:=
 if n<=11/\d<2048 then [ub (1+4*(n-4)+32*(d/256):Nat),ub (d%256:Nat)]
 else [ub (2+4*(n-1):Nat),ub (d%256:Nat),ub (d/256:Nat)]
def pk (L:List UInt8):Nat->Nat->Nat->List UInt8
 |0,_,_=> []
 |f+1,p,i=>if i<L.length then
  (match Ie L i i with
  |none=>pk L f p (i+1)
  |some j=>ig ((L.take i).drop p)++(kZ (mt L j i 64) (i-j)++pk L f (i+mt L j i 64) (i+mt L j i 64)))
  else ig (L.drop p)
def pack (L:List UInt8):List UInt8:=aR L.length++pk L (L.length+1) 0 0
theorem BG (L:List UInt8)(f:Nat):∀j i,mt L j i f<=f/\(i<=L.length->i+mt L j i f<=L.length):=by
 induction f with
 |zero=>intro j i;simp[mt]
 |succ f ih=>
  intro j i;have:=ih (j+1) (i+1);unfold mt;split<;>omega
theorem EL (L:List UInt8)(f:Nat):∀j i n,n<mt L j i f->L[j+n]?=L[i+n]?:=by
 induction f with
 |zero=>intro j i n h;simp[mt]at h
 |succ f ih=>
  intro j i n h;unfold mt at h;split at h
  ·rename_i b
   cases n with
   |zero=>exact b.2
   |succ n=>
    have:=ih (j+1) (i+1) n (by omega);rw[show j+(n+1)=j+1+n from by omega,show i+(n+1)=i+1+n from by omega];exact this
  omega
theorem qh (L:List UInt8)(i:Nat):∀k j,Ie L i k=some j->j<k/\4<=mt L j i 64:=by
 intro k;induction k with
 |zero=>intro j h;simp[Ie]at h
 |succ k ih=>
  intro j h;unfold Ie at h;split at h
  ·rename_i b
   injection h with h;subst h;exact⟨by omega,b⟩
  have:=ih j h;omega
theorem WR (L:List UInt8)(j i:Nat)(d:j<i)(hi:i<=L.length):∀n,n<=mt L j i 64->tZ (L.take i) (i-j) n=L.take (i+n):=by
 intro n;induction n with
 |zero=>intro _;rfl
 |succ n ih=>
  intro e;have h:=(BG L 64 j i).2 hi;rw[Et,ih (by omega)];have b:(L.take (i+n)).length=i+n:=by rw[zV];omega
  have c:=EL L 64 j i n (by omega);rw[b,show i+n-(i-j)=j+n from by omega,show i+(n+1)=(i+n)+1 from by omega,yt (by omega)];congr 1
  rw[zw,yA (by omega),c,zx (by omega)];rfl
theorem kf (l:List UInt8)(h:l.length<=65536):l.length<=(ig l).length/\(ig l).length<=l.length+(if l.length=0 then 0 else if l.length<=60 then 1 else if l.length<=256 then 2 else 3):=by
 unfold ig;split
 ·rename_i b;simp[b]
 split
 ·simp
 split<;>simp<;>omega
theorem sJ (n d:Nat):2<=(kZ n d).length/\(kZ n d).length<=3:=by
 unfold kZ;split<;>simp
theorem MA (L:List UInt8)(m:L.length<=65536)(f:Nat):∀p i,p<=i->i<=L.length->32*(pk L f p i).length<=33*(L.length-p)+96:=by
 induction f with
 |zero=>intro p i _ _;simp[pk]
 |succ f ih=>
  intro p i n hi;unfold pk;split
  ·cases hf:Ie L i i with
   |none=>exact ih p (i+1) (by omega) (by omega)
   |some j=>
    obtain⟨h,e⟩:=qh L i i j hf;have d:=(BG L 64 j i).2 hi;have k:=ih (i+mt L j i 64) (i+mt L j i 64) (zg _) d;have l:=sJ (mt L j i 64) (i-j);have c:((L.take i).drop p).length=i-p:=by simp;omega
    have b:=kf ((L.take i).drop p) (by omega);rw[c]at b;simp only[zj];split at b
    ·omega
    split at b
    ·omega
    split at b<;>omega
  have c:(L.drop p).length=L.length-p:=by simp
  have b:=kf (L.drop p) (by omega);rw[c]at b;split at b
  ·omega
  split at b
  ·omega
  split at b<;>omega
theorem sK (L:List UInt8)(b:L.length<=65536):(pack L).length<=L.length+L.length/32+8:=by
 have d:=MA L b (L.length+1) 0 0 (zg _) (yh _);have c:=bB 3 L.length (by omega) (by omega);unfold pack;rw[zj];omega
theorem EM (B:ByteArray)(size:Nat)(pre l rest out:List UInt8)(c:B.data.toList=pre++(ig l++rest))(q:l.length<=65536)(r:out.length+l.length<=size):
 ∃n,n<=(ig l).length/\∀F,gX B size (F+n) pre.length out=gX B size F (pre.length+(ig l).length) (out++l):=by
 by_cases o:l.length=0
 ·have:l= []:=zo o;subst this;exact⟨0,by simp,fun F=>by simp[ig]⟩
 refine⟨1, ?_,fun F=> ?_⟩
 ·have:=kf l q;omega
 have hz:B.size=pre.length+(ig l).length+rest.length:=by rw[<-aa,c];simp[yi]
 have hcut:∀a b,(B.extract (pre.length+a) (pre.length+b)).data.toList=((ig l++rest).take b).drop a:=by
  intro a b;rw[ar,c,List.take_append,List.drop_append,show pre.length+b-pre.length=b from by omega,zI (by rw[zV];omega),yx,zV,show pre.length+a-min (pre.length+b) pre.length=a from by omega]
 unfold ig at c hz hcut⊢;rw[zh o]at c hz hcut⊢;by_cases m:l.length<=60
 ·rw[zi m]at c hz hcut⊢;obtain⟨g,e⟩:=o7 (s:=B) (k:=pre.length) (b:=ub (4*(l.length-1):Nat)) (by rw[c];simp);have i:B[pre.length].toNat=4*(l.length-1):=by rw[e,bn _ (by omega)]
  have d:bh (4*(l.length-1))=1:=by unfold bh;rw[zi (by omega),zh (by omega)]
  have h:∀x,cS (4*(l.length-1)) x=l.length:=by intro x;unfold cS;rw[zi (by omega),zh (by omega)];omega
  simp only[zy]at hz⊢;refine kY g i ?_;unfold cd;rw[h,d,zh (by omega),zh (by omega),zi (by omega),zh (by omega),show pre.length+1+l.length=pre.length+(1+l.length)from by omega,hcut];simp only[zP,Zo 1,zO,zX,zJ,zW (zg l.length),Z8]
 rw[zh m]at c hz hcut⊢;by_cases p:l.length<=256
 ·rw[zi p]at c hz hcut⊢;obtain⟨g,e⟩:=o7 (s:=B) (k:=pre.length) (b:=240) (by rw[c];simp);have i:B[pre.length].toNat=240:=by rw[e];rfl
  have d:bh 240=2:=by decide
  simp only[zy]at hz⊢;have j:iE B pre.length 240=l.length-1:=by
   unfold iE;rw[d,hcut];simp only[zP,zO,zX,zJ,yu];simp only[du,bn (l.length-1) (by omega)];omega
  have h:cS 240 (l.length-1)=l.length:=by unfold cS;rw[zi (by omega),zi (by omega)];omega
  refine kY g i ?_;unfold cd;rw[j,h,d,zh (by omega),zh (by omega),zi (by omega),zh (by omega),show pre.length+2+l.length=pre.length+(l.length+2)from by omega,hcut];simp only[zP,zO,zX,zJ,zW (zg l.length),Z8]
 rw[zh p]at c hz hcut⊢;obtain⟨g,e⟩:=o7 (s:=B) (k:=pre.length) (b:=244) (by rw[c];simp);have i:B[pre.length].toNat=244:=by rw[e];rfl
 have d:bh 244=3:=by decide
 simp only[zy]at hz⊢;have j:iE B pre.length 244=l.length-1:=by
  unfold iE;rw[d,hcut];simp only[zP,zO,zX,zJ,yu];simp only[du,bn ((l.length-1)%256) (by omega),bn ((l.length-1)/256) (by omega)];omega
 have h:cS 244 (l.length-1)=l.length:=by unfold cS;rw[zi (by omega),zi (by omega)];omega
 refine kY g i ?_;unfold cd;rw[j,h,d,zh (by omega),zh (by omega),zi (by omega),zh (by omega),show pre.length+3+l.length=pre.length+(l.length+3)from by omega,hcut];simp only[zP,zO,zX,zJ,zW (zg l.length),Z8]
theorem Pn (B:ByteArray)(size n d:Nat)(pre rest out:List UInt8)(c:B.data.toList=pre++(kZ n d++rest))(p:4<=n)(q:n<=64)(hd:1<=d)(u:d<=out.length)(r:d<65536)(w:out.length+n<=size)(F:Nat):
 gX B size (F+1) pre.length out=gX B size F (pre.length+(kZ n d).length) (tZ out d n):=by
 have hz:B.size=pre.length+(kZ n d).length+rest.length:=by rw[<-aa,c];simp[yi]
 have hcut:∀a b,(B.extract (pre.length+a) (pre.length+b)).data.toList=((kZ n d++rest).take b).drop a:=by
  intro a b;rw[ar,c,List.take_append,List.drop_append,show pre.length+b-pre.length=b from by omega,zI (by rw[zV];omega),yx,zV,show pre.length+a-min (pre.length+b) pre.length=a from by omega]
 unfold kZ at c hz hcut⊢;by_cases o:n<=11/\d<2048
 ·rw[zi o]at c hz hcut⊢;obtain⟨g,e⟩:=o7 (s:=B) (k:=pre.length) (b:=ub (1+4*(n-4)+32*(d/256):Nat)) (by rw[c];simp);have m:B[pre.length].toNat=1+4*(n-4)+32*(d/256):=by rw[e,bn _ (by omega)]
  have h:bh (1+4*(n-4)+32*(d/256))=2:=by unfold bh;rw[zh (by omega),zi (by omega)]
  simp only[zy,zL]at hz⊢;have l:iE B pre.length (1+4*(n-4)+32*(d/256))=d%256:=by
   unfold iE;rw[h,hcut];simp only[zP,zO,zX,zJ,yu];simp only[du,bn (d%256) (by omega)];omega
  have i:∀x,cS (1+4*(n-4)+32*(d/256)) x=n:=by intro x;unfold cS;rw[zh (by omega),zi (by omega)];omega
  have j:j8 (1+4*(n-4)+32*(d/256)) (d%256)=d:=by unfold j8;rw[zi (by omega)];omega
  refine kY g m ?_;unfold cd;rw[l,j,i,h,zh (by omega),zh (by omega),zh (by omega)]
 rw[zh o]at c hz hcut⊢;obtain⟨g,e⟩:=o7 (s:=B) (k:=pre.length) (b:=ub (2+4*(n-1):Nat)) (by rw[c];simp);have m:B[pre.length].toNat=2+4*(n-1):=by rw[e,bn _ (by omega)]
 have h:bh (2+4*(n-1))=3:=by unfold bh;rw[zh (by omega),zh (by omega),zi (by omega)]
 simp only[zy,zL]at hz⊢;have l:iE B pre.length (2+4*(n-1))=d:=by
  unfold iE;rw[h,hcut];simp only[zP,zO,zX,zJ,yu];simp only[du,bn (d%256) (by omega),bn (d/256) (by omega)];omega
 have i:∀x,cS (2+4*(n-1)) x=n:=by intro x;unfold cS;rw[zh (by omega),zh (by omega)];omega
 have j:j8 (2+4*(n-1)) d=d:=by unfold j8;rw[zh (by omega)]
 refine kY g m ?_;unfold cd;rw[l,j,i,h,zh (by omega),zh (by omega),zh (by omega)]
theorem Ts (B:ByteArray)(L:List UInt8)(A:L.length<=65536)(f:Nat):∀(p i:Nat) (pre:List UInt8),p<=i->i<=L.length->L.length-i<f->B.data.toList=pre++pk L f p i->
 ∃n,n<=(pk L f p i).length/\∀F,gX B L.length (F+n) pre.length (L.take p)=gX B L.length F B.size L:=by
 induction f with
 |zero=>intro p i pre _ _ h;omega
 |succ f ih=>
  intro p i pre r hi E b;unfold pk at b⊢;by_cases h:i<L.length
  ·rw[zi h]at b⊢;cases hfd:Ie L i i with
   |none=>
    rw[hfd]at b;exact ih p (i+1) pre (by omega) (by omega) (by omega) b
   |some j=>
    rw[hfd]at b;simp only at b⊢;obtain⟨s,u⟩:=qh L i i j hfd;have m:=BG L 64 j i;have y:=m.2 hi;have z:((L.take i).drop p).length=i-p:=by simp;omega
    have D:(L.take p).length=p:=by rw[zV];omega
    have q:(L.take i).length=i:=by rw[zV];omega
    have w:L.take p++(L.take i).drop p=L.take i:=by
     have:=zC p (L.take i);rwa [xw,yD r]at this
    obtain⟨n1,e,c⟩:=EM B L.length pre ((L.take i).drop p) _ (L.take p) b (by omega) (by omega);rw[w]at c;have o:B.data.toList=(pre++ig ((L.take i).drop p))++(kZ (mt L j i 64) (i-j)++pk L f (i+mt L j i 64) (i+mt L j i 64)):=by rw[b,zB]
    have l:=Pn B L.length (mt L j i 64) (i-j) _ _ (L.take i) o u m.1 (by omega) (by omega) (by omega) (by omega);rw[WR L j i s hi _ (zg _),zj]at l;have x:B.data.toList=((pre++ig ((L.take i).drop p))++kZ (mt L j i 64) (i-j))++pk L f (i+mt L j i 64) (i+mt L j i 64):=by rw[o,zB _ (kZ _ _) _]
    obtain⟨d,C,k⟩:=ih _ _ _ (zg _) y (by omega) x;rw[zj,zj]at k;refine⟨d+1+n1, ?_,fun F=> ?_⟩
    ·have:=sJ (mt L j i 64) (i-j);simp only[zj];omega
    rw[show F+(d+1+n1)=(F+d+1)+n1 from by omega,c,l,k]
  rw[zh h]at b⊢;have q:(L.take p).length=p:=by rw[zV];omega
  obtain⟨n1,e,c⟩:=EM B L.length pre (L.drop p) [] (L.take p) (by simpa using b) (by simp;omega) (by simp;omega);refine⟨n1,e,fun F=> ?_⟩;rw[c,zC];congr 1
  rw[<-aa,b,zj]
theorem BH (s:ByteArray)(L:List UInt8)(c:L.length<=65536)(b:s.data.toList=pack L):aE s=(L.length,(aR L.length).length,0):=by
 unfold pack at b;have h:=ke L.length s _ b (by omega);unfold aE;rw[h,zi rfl,zh (by simp;omega)]
theorem EN (s:ByteArray)(L:List UInt8)(d:L.length<=65536)(b:s.data.toList=pack L)(most:Int)(k:L.length<=most):bd s most=(0,L):=by
 have i:=BH s L d b;unfold bd;rw[i];simp only[ne_eq,yZ,xM];rw[zh (by omega)];unfold pack at b;generalize e:s.extract (aR L.length).length s.size=B;have c:B.data.toList=pk L (L.length+1) 0 0:=by
  rw[<-e,ar,dq,b,yK (zg _),Z9,yx]
 obtain⟨n,j,h⟩:=Ts B L d (L.length+1) 0 0 [] (zg _) (yh _) (by omega) (by simpa using c);unfold iW;have hz:B.size=(pk L (L.length+1) 0 0).length:=by rw[<-aa,c]
 rw[show B.size+1=(B.size-n+1)+n from by omega];have:=h (B.size-n+1);simp only[zL,yu]at this;rw[this];unfold gX;rw[dif_neg (by omega),zh (by omega)]
