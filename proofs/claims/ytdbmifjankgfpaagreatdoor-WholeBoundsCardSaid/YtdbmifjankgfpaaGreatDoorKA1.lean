/- Words for memory: a block that is known whole ('Blk'), a world that has turned at some blocks alone ('Only'), a slice that reads as a list ('Reads'). Own text; no program in sight. -/
import Derived.WalkKit
import Derived.Deep.AppendLies
import Derived.Deep.Draws
import Derived.Lib.Hide
import Derived.Lib.AtoiErrMem
import Derived.Test.YtdbmifjankgfpaaGreatDoorKA2
import Derived.Deep.Upon
import Derived.Deep.RegionLaw
import Derived.Maps.Range
set_option linter.all false
namespace Go.Proofs.YtdbmifjankgfpaaGreatDoor
open Go.RowKit
variable {w a w':World}{base g n B cap k i h x:Nat}{E t d:TypeId}{v:Value}{l:List UInt8}{L M:List Nat}{p:Addr}{xs:List Value}{A:Option Addr}{o:Oper}{Q:Exit->Act->World->Prop}{ops:Array Oper}{row:Option Nat}{rest:List Oper}{s:ByteArray}
def za:=@Lib.hid
def zm:=@Below.refl
def zA:=@World.cell?_alloc_lt
def zF:=@Nat.le_trans
def zG:=@World.cell?_of_block
def zH:=@List.drop_eq_nil_of_le
def zJ:=@List.length_nil
def zL:=@List.drop_zero
def zM:=@Below.heap_setCell
def zQ:=@Nat.zero_add
def zT:=@List.take_succ_cons
def yf:=@List.drop_succ_cons
def yk:=@Nat.zero_le
def yy:=@List.nil_append
def yC:=@List.take_zero
def yO:=@List.getElem?_take_of_lt
def yP:=@lt_of_block
def yR:=@heap_alloc_new
def yY:=@not_true_eq_false
def xu:=@List.take_take
def xH:=@List.mem_map
def xL:=@if_false
def xQ:=@Array.getElem?_eq_none
def xS:=@List.getElem?_map
def xW:=@Nat.mul_one
def xX:=@Nat.div_lt_of_lt_mul
def Zc:=@List.getElem?_eq_some_iff
def Zh:=@List.length_set
def Zi:=@Nat.eq_zero_or_pos
def Zl:=@Nat.pow_succ
def Zn:=@Nat.add_comm
def Zs:=@Array.getElem?_modify
def Zx:=@Below.heap_alloc
def ZA:=@Prod.ext
def ZF:=@World.news_of_block
def ZL:=@grownCap_le_maxLen
def ZR:=@Array.toList_setIfInBounds
def ZS:=@World.heap_setCells_other
def ZX:=@List.size_toArray
def ZZ:=@run_convert_bytes_string
def Z4:=@List.take_length
def Z5:=@List.drop_length
def Yh:=@World.output_setCells
def af (w:World)(g:Nat)(t:TypeId)(cs:Array Value):Prop:=w.heap[g]?=some (.cells cs t (0,0))
theorem af.lt {b:Array Value}(h:af w g t b):g<w.heap.size:=yP h
theorem af.cell {w:World}{g:Nat}{t:TypeId}{b:Array Value}(h:af w g t b)(i:Nat):w.cell? ⟨g,i,none⟩=b[i]?:=by
 unfold af at h;simp[World.cell?,h]
theorem af.frozen {b:Array Value}(h:af w g t b)(i:Nat):w.frozen? ⟨g,i,none⟩=false:=by
 unfold af at h;simp[World.frozen?,h]
theorem af.new (w:World)(t:TypeId)(b:Array Value):af (w.alloc (.cells b t)) w.heap.size t b:=yR w _
theorem af.drew {b:Array Value}(h:af w g t b):af w.drew g t b:=h
theorem af.drewN {b:Array Value}(h:af w g t b)(n:Nat):af (w.drewN n) g t b:=h
theorem af.alloc {w:World}{g:Nat}{t:TypeId}{b:Array Value}(h:af w g t b)(o:Obj):af (w.alloc o) g t b:=(Zx w o g h.lt).trans h
theorem af.set {b:Array Value}(h:af w g t b)(i:Nat)(u:Value):af (w.setCell ⟨g,i,none⟩ u) g t (b.setIfInBounds i u):=by
 unfold af at h⊢;simp[World.setCell,Zs,h]
theorem af.dN {b:Array Value}(h:af w g t b)(c:g≠p.block)(u:Value):af (w.setCell p u) g t b:=(zM w p u g c).trans h
theorem af.beside {b:Array Value}(c:g≠p.block)(h:af w g t b)(u:Value):af (w.setCell p u) g t b:=h.dN c u
theorem af.store {c b:Array Value}{u:Value}(h:af w g t c)(e:c.setIfInBounds i u=b):af (w.setCell ⟨g,i,none⟩ u) g t b:=e▸h.set i u
structure ae (L:List Nat)(w w':World):Prop where
 os:w'.os=w.os
 tape:w'.tape=w.tape
 output:w'.output=w.output
 size:w.heap.size<=w'.heap.size
 block:∀k,k<w.heap.size->k∉L->w'.heap[k]?=w.heap[k]?
theorem ae.refl (L:List Nat)(w:World):ae L w w:=⟨rfl,rfl,rfl,zg _,fun _ _ _=>rfl⟩
theorem ae.trans' {b c:World}(h:ae L a b)(k:ae M b c)(e:∀i,i∈M->i∈L\/a.heap.size<=i):ae L a c:=
 ⟨k.os.trans h.os,k.tape.trans h.tape,k.output.trans h.output,zF h.size k.size,fun i hi d=>
  (k.block i (zU hi h.size) (fun j=>by rcases e i j with h1|h1;exact d h1;omega)).trans (h.block i hi d)⟩
theorem ae.trans {b c:World}(h:ae L a b)(k:ae L b c):ae L a c:=h.trans' k fun _ hi=> .inl hi
theorem ae.mono (h:ae L w w')(b:∀i,i∈L->i∈M):ae M w w':=⟨h.os,h.tape,h.output,h.size,fun k d e=>h.block k d (fun c=>e (b k c))⟩
theorem ae.drew (h:ae L a w):ae L a w.drew:=⟨h.os,h.tape,h.output,h.size,h.block⟩
theorem ae.drewN (h:ae L a w)(n:Nat):ae L a (w.drewN n):=⟨h.os,h.tape,h.output,h.size,h.block⟩
theorem ae.alloc {L:List Nat}{a w:World}(h:ae L a w)(o:Obj):ae L a (w.alloc o):=
 ⟨h.os,h.tape,h.output,zF h.size (by simp),fun k b c=>(Zx w o k (zU b h.size)).trans (h.block k b c)⟩
theorem ae.setCell (h:ae L a w)(b:p.block∈L\/a.heap.size<=p.block)(u:Value):ae L a (w.setCell p u):=
 ⟨h.os,h.tape,h.output,by simpa[World.setCell]using h.size,fun k d c=>(zM w p u k (by
  rintro rfl;rcases b with b|b
  ·exact c b
  omega)).trans (h.block k d c)⟩
theorem ae.put (b:p.block∈L\/a.heap.size<=p.block)(h:ae L a w)(u:Value):ae L a (w.setCell p u):=h.setCell b u
theorem ae.fU (h:w.grownBy w' row):ae row.toList w w':=
 ⟨h.os,h.tape,h.output,h.size,fun k b c=>h.block k b (fun e=>c (by simp[<-e]))⟩
theorem ae.grown (h:ae L a w)(c:w.grownBy w' row)(b:∀k,row=some k->k∈L\/a.heap.size<=k):ae L a w':=
 h.trans' (ae.fU c) fun i hi=>b i (by simpa using hi)
theorem ae.ah (h:Below B w w')(b:w.heap.size<=B):ae [] w w':=⟨h.os,h.tape,h.output,h.size,fun k c _=>h.block k (by omega)⟩
theorem ae.below (h:ae L w w')(c:B<=w.heap.size)(b:∀i,i∈L->B<=i):Below B w w':=
 ⟨h.os,h.tape,h.output,h.size,fun k d=>h.block k (by omega) (fun hi=>by have:=b k hi;omega)⟩
theorem ae.cell {L:List Nat}{w w':World}(h:ae L w w'){p:Addr}(b:p.block<w.heap.size)(c:p.block∉L):w'.cell? p=w.cell? p:=zG (h.block _ b c)
theorem ae.frozen (h:ae L w w')(b:p.block<w.heap.size)(c:p.block∉L):w'.frozen? p=w.frozen? p:=World.frozen?_of_block (h.block _ b c)
theorem af.only {b:Array Value}(h:af w g t b)(c:ae L w w')(d:g∉L):af w' g t b:=(c.block g h.lt d).trans h
theorem ae.own (h:ae L w w'){e:TypeId}{size:Nat}(d:w.ownsRow base e size v n xs)
 (i:∀g,v.ownBlock=some g->g∉L):w'.ownsRow base e size v n xs:=by
 obtain⟨c,b⟩:=d;refine⟨c, ?_⟩;rcases b with b|⟨g,cap,cur,hv,hg,hh,r⟩
 ·exact Or.inl b
 subst hv;exact Or.inr ⟨g,cap,cur,rfl,hg,(h.block g (yP hh) (i g rfl)).trans hh,r⟩
def cb (l:List UInt8):List Value:=l.map fun b=> .int .u8 b.toNat
theorem bj (l:List UInt8):(cb l).length=l.length:=List.length_map ..
theorem gE (l m:List UInt8):cb (l++m)=cb l++cb m:=List.map_append ..
theorem Ev (l:List UInt8)(j:Nat):(cb l)[j]?=(l[j]?).map fun b=> .int .u8 b.toNat:=xS ..
theorem rE (l:List UInt8):∀u∈cb l,u.oneCell'=true:=by
 intro u hu;simp only[cb,xH]at hu;obtain⟨b,_,rfl⟩:=hu;rfl
theorem Tj (l:List UInt8)(k:Nat):cb (l.drop k)=(cb l).drop k:=by simp[cb]
theorem Tk (l:List UInt8)(k:Nat):cb (l.take k)=(cb l).take k:=by simp[cb]
theorem cy {e:TypeId}{size:Nat}{i:Array Value}(k:w.ownsRow base e size (.slice (some ⟨h,0,none⟩) n cap) n xs)(c:af w g t i)(l:e≠t):h≠g:=by
 rintro rfl;rcases k.2 with⟨j,_⟩|⟨m,o,p,b,_,d,_⟩
 ·cases j
 injection b with b;injection b with b;injection b with b;subst b;unfold af at c;rw[d]at c;injection c with c;injection c with _ ht;exact l ht
theorem rF {e:TypeId}{size:Nat}(l:w.ownsRow base e size (.slice (some ⟨h,0,none⟩) n cap) n xs):n<=cap/\cap<=9223372036854775807/\base<=h/\h<w.heap.size:=by
 rcases l.2 with⟨j,_⟩|⟨m,o,p,b,d,i,k,c,_⟩
 ·cases j
 injection b with b kD Ed;injection b with b;injection b with b;subst b;subst Ed;exact⟨k,by simpa[maxLen]using c,d,yP i⟩
theorem pS {e:TypeId}{size:Nat}(j:w.ownsRow base e size v n xs)(b:v≠ .slice none 0 0):∃h cap,v= .slice (some ⟨h,0,none⟩) n cap:=by
 rcases j.2 with⟨i,_⟩|⟨c,d,k,b,_⟩
 ·exact absurd i b
 exact⟨c,d,b⟩
theorem Hj (l:List UInt8)(s:ByteArray):(l.map fun b=>(b.toNat:Int)).foldl (fun r n=>r.push (UInt8.ofNat n.toNat)) s=⟨(s.data.toList++l).toArray⟩:=by
 induction l generalizing s with
 |nil=>cases s;simp
 |cons b t ih=>
  rw[List.map_cons,List.foldl_cons,ih];congr 1
  simp[ByteArray.push]
theorem CJ {P:Program}(w:World)(src dst e:TypeId)(i:P.underlying src=some (.slice e))(k:P.underlying e=some (.int .u8))(hd:P.underlying dst=some .string)(a:Addr)(cap:Nat)(l:List UInt8)
 (h:∀j u,(cb l)[j]?=some u->w.cell? (a.add j)=some u):(convert src dst (.slice (some a) l.length cap)).run P w= .ok (.string ⟨l.toArray⟩) w:=by
 rw[ZZ w src dst e (some a) l.length cap i k hd];have d:cb l=(l.map fun b=>(b.toNat:Int)).map (Value.int .u8):=by simp[cb]
 have c:=run_loadCells_list (P:=P) (w:=w) a (cb l) h;rw[bj,d]at c;rw[run_bytesToString w a l.length cap _ c,Hj];simp
theorem sM {P:Program}{src dst e:TypeId}(b:P.underlying src=some (.slice e))(d:P.underlying e=some (.int .u8))(hd:P.underlying dst=some .string)
 (c:w.ownsRow base e 1 (.slice (some ⟨h,0,none⟩) l.length cap) l.length (cb l)):(convert src dst (.slice (some ⟨h,0,none⟩) l.length cap)).run P w= .ok (.string ⟨l.toArray⟩) w:=
 CJ w src dst e b d hd _ cap l (c.cells rfl)
theorem _root_.Go.RowKit.Below.afz (b:B<=w.heap.size)(h:Below B a w)(o:Obj):Below B a (w.alloc o):=h.alloc b o
theorem _root_.Go.RowKit.Below.bs (h:Below B a w)(n:Nat):Below B a (w.drewN n):=⟨h.os,h.tape,h.output,h.size,h.block⟩
theorem _root_.Go.World.ownsRow.bs {e:TypeId}{size:Nat}(h:w.ownsRow base e size v n xs)(k:Nat):(w.drewN k).ownsRow base e size v n xs:=h
theorem sN (d:g<w.heap.size)(h:w.cell? ⟨g,i,none⟩=some v)(c e b:Obj):(((w.alloc c).alloc e).alloc b).cell? ⟨g,i,none⟩=some v:=by
 rw[zA _ _ _ (by simp;omega),zA _ _ _ (by simp;omega),zA _ _ _ (by simpa using d)];exact h
theorem CK (e:g<w.heap.size)(h:w.frozen? ⟨g,i,none⟩=false)(c d b:Obj):(((w.alloc c).alloc d).alloc b).frozen? ⟨g,i,none⟩=false:=by
 rw[(((((ae.refl [] w).alloc c).alloc d).alloc b)).frozen e (by simp)];exact h
theorem nU {a b:ByteArray}(h:b=a):Ending.returned (.string a)= .returned (.string b):=by rw[h]
def strOf :Value->Nat
 | .string y=>y.size
 |_=>0
@[simp] theorem Tl (y:ByteArray):strOf (.string y)=y.size:=rfl
theorem aV {a b:Bool}(h:b=a):Ending.returned (.bool a)= .returned (.bool b):=by rw[h]
theorem gd {k:IntKind}{a b:Int}(h:a=b):Ending.returned (.int k a)= .returned (.int k b):=by rw[h]
class gw (B:Nat) (w w':World):Prop where
 out:Below B w w'
 le:B<=w'.heap.size
instance gw.refl (w:World):gw w.heap.size w w:=⟨zm _ _,zg _⟩
instance gw.alloc {B:Nat}{w w':World} [h:gw B w w'](o:Obj):gw B w (w'.alloc o):=⟨h.out.alloc h.le o,zF h.le (by simp)⟩
instance gw.drew {B:Nat}{w w':World} [h:gw B w w']:gw B w w'.drew:=⟨h.out.drew,h.le⟩
instance gw.drewN {B:Nat}{w w':World} [h:gw B w w'](n:Nat):gw B w (w'.drewN n):=⟨h.out.bs n,h.le⟩
theorem bT  [h:gw B w w']:Below B w w':=h.out
theorem blm (b:B<=w.heap.size) [h:gw w.heap.size w w']:Below B w w':=h.out.mono b
theorem _root_.Go.RowKit.Below.up {b:World}(h:Below w.heap.size w b) [g:gw b.heap.size b w']:Below w.heap.size w w':=h.trans (g.out.mono h.size)
theorem _root_.Go.RowKit.Below.up' {b:World}(h:Below B w b)(c:B<=b.heap.size) [g:gw b.heap.size b w']:Below B w w':=h.trans (g.out.mono c)
class L9 (g:Nat) (L:List Nat):Prop where
 out:g∈L
instance L9.here (g:Nat)(L:List Nat):L9 g (g::L):=⟨by simp⟩
instance L9.there {g:Nat}{L:List Nat} [h:L9 g L](k:Nat):L9 g (k::L):=⟨by simp[h.out]⟩
class dU (L:List Nat) (a w:World):Prop where
 out:ae L a w
instance dU.refl (L:List Nat)(w:World):dU L w w:=⟨ae.refl L w⟩
instance dU.alloc {L:List Nat}{a w:World} [h:dU L a w](o:Obj):dU L a (w.alloc o):=⟨h.out.alloc o⟩
instance dU.drew {L:List Nat}{a w:World} [h:dU L a w]:dU L a w.drew:=⟨h.out.drew⟩
instance dU.drewN {L:List Nat}{a w:World} [h:dU L a w](n:Nat):dU L a (w.drewN n):=⟨h.out.drewN n⟩
instance dU.put {L:List Nat}{a w:World}{g:Nat} [h:dU L a w] [m:L9 g L](i:Nat)(n:Option Nat)(u:Value):dU L a (w.setCell ⟨g,i,n⟩ u):=⟨h.out.setCell (.inl m.out) u⟩
instance dU.alk {L:List Nat}{a w:World} [h:dU L a w](i:Nat)(n:Option Nat)(u:Value):dU L a (w.setCell ⟨a.heap.size,i,n⟩ u):=⟨h.out.setCell (.inr (zg _)) u⟩
instance dU.alm {L:List Nat}{a w:World} [h:dU L a w](i:Nat)(n:Option Nat)(u:Value):dU L a (w.setCell ⟨a.heap.size+1,i,n⟩ u):=⟨h.out.setCell (.inr (by simp)) u⟩
instance dU.aln {L:List Nat}{a w:World} [h:dU L a w](i:Nat)(n:Option Nat)(u:Value):dU L a (w.setCell ⟨a.heap.size+1+1,i,n⟩ u):=⟨h.out.setCell (.inr (by simp;omega)) u⟩
theorem CL  [h:dU L a w]:ae L a w:=h.out
theorem ae.up (h:ae L a w) [g:dU L w w']:ae L a w':=h.trans g.out
def ub (n:Int):UInt8:=UInt8.ofNat n.toNat
theorem bo (n:Nat)(h:n<256):(ub n).toNat=n:=by
 simp[ub];omega
theorem Ew {P:Program}{src dst e:TypeId}(d:P.underlying src=some (.slice e))(k:P.underlying e=some (.int .u8))(hd:P.underlying dst=some .string)(w:World)(xs:List Int)(cap:Nat):
 (convert src dst (.slice (some ⟨w.heap.size,0,none⟩) xs.length cap)).run P (w.alloc (.cells (xs.map (Value.int .u8)).toArray e))= .ok (.string ⟨(xs.map ub).toArray⟩) (w.alloc (.cells (xs.map (Value.int .u8)).toArray e)):=by
 rw[ZZ _ src dst e _ xs.length cap d k hd];have c:=run_loadCells_list (P:=P) (w:=w.alloc (.cells (xs.map (Value.int .u8)).toArray e)) ⟨w.heap.size,0,none⟩ (xs.map (Value.int .u8)) (by
  intro j v i;have:=ZF (yR w (.cells (xs.map (Value.int .u8)).toArray e)) j v (by simpa using i);exact this)
 rw[List.length_map]at c;rw[run_bytesToString _ _ _ cap xs c];have h:∀(l:List Int) (s:ByteArray),l.foldl (fun r n=>r.push (UInt8.ofNat n.toNat)) s=⟨(s.data.toList++l.map ub).toArray⟩:=by
  intro l;induction l with
  |nil=>intro s;cases s;simp
  |cons b t ih=>
   intro s;rw[List.foldl_cons,ih];congr 1
   simp[ByteArray.push,ub]
 rw[h];simp
section
variable {P:Program} {src dst e:TypeId} (hs:P.underlying src=some (.slice e)) (he:P.underlying e=some (.int .u8)) (hd:P.underlying dst=some .string)
include hs he hd
theorem O2 (w:World)(a:Int):(convert src dst (.slice (some ⟨w.heap.size,0,none⟩) 1 1)).run P (w.alloc (.cells #[.int .u8 a] e))= .ok (.string ⟨#[ub a]⟩) (w.alloc (.cells #[.int .u8 a] e)):=Ew hs he hd w [a] 1
end
structure Kept (E:TypeId)(base:Nat)(w w':World):Prop where
 below:Below base w w'
 other:∀(k:Nat) (o:Obj),w.heap[k]?=some o->(∀cs fr,o≠Obj.cells cs E fr)->w'.heap[k]?=some o
theorem Kept.refl (E:TypeId)(base:Nat)(w:World):Kept E base w w:=⟨zm _ _,fun _ _ h _=>h⟩
theorem Kept.trans {b c:World}(h:Kept E base a b)(k:Kept E base b c):Kept E base a c:=
 ⟨h.below.trans k.below,fun i o hi d=>k.other i o (h.other i o hi d) d⟩
theorem Kept.ah {b:World}(h:Below B a b)(d:a.heap.size<=B)(c:base<=a.heap.size):Kept E base a b:=
 ⟨h.mono (by omega),fun i o hi _=>(h.block i (by
  have:=(yg.1 hi).1;omega)).trans hi⟩
theorem Kept.alloc {E:TypeId}{base:Nat}{a w:World}(h:Kept E base a w)(b:base<=w.heap.size)(o:Obj):Kept E base a (w.alloc o):=
 h.trans (Kept.ah ((zm w.heap.size w).alloc (zg _) o) (zg _) b)
theorem Kept.drew (h:Kept E base a w):Kept E base a w.drew:=⟨h.below.drew,h.other⟩
theorem Kept.size (h:Kept E base a w):a.heap.size<=w.heap.size:=h.below.size
theorem Kept.mono {b:Nat}(h:Kept E base a w)(c:b<=base):Kept E b a w:=⟨h.below.mono c,h.other⟩
def bF (w:World)(base:Nat)(E:TypeId)(v:Value)(l:List UInt8):Prop:=
 ∃A cap,v= .slice A l.length cap/\l.length<=cap/\cap<=9223372036854775807/\
  ((A=none/\cap=0)\/∃g cur fr,A=some ⟨g,0,none⟩/\base<=g/\w.heap[g]?=some (.cells cur E fr)/\cur.size=cap/\cur.toList.take l.length=cb l/\(fr.2=0\/cap<=fr.1))
theorem bF.nil (w:World)(base:Nat)(E:TypeId):bF w base E (.slice none 0 0) []:=⟨none,0,rfl,by simp,by simp,.inl ⟨rfl,rfl⟩⟩
theorem bF.form (h:bF w base E v l):∃A cap,v= .slice A l.length cap/\l.length<=cap/\cap<=9223372036854775807:=by
 obtain⟨A,cap,b,c,d,_⟩:=h;exact⟨A,cap,b,c,d⟩
theorem bF.of_heap (h:bF w base E v l)(i:∀k,base<=k->k<w.heap.size->w'.heap[k]?=w.heap[k]?):bF w' base E v l:=by
 obtain⟨A,cap,c,d,e,b⟩:=h;refine⟨A,cap,c,d,e, ?_⟩;rcases b with b|⟨g,cur,fr,hA,hg,hh,r⟩
 ·exact .inl b
 exact .inr ⟨g,cur,fr,hA,hg,(i g hg (yg.1 hh).1).trans hh,r⟩
theorem bF.below (h:bF w base E v l)(b:Below w.heap.size w w'):bF w' base E v l:=h.of_heap fun k _ c=>b.block k c
theorem bF.alloc {w:World}{base:Nat}{E:TypeId}{v:Value}{l:List UInt8}(h:bF w base E v l)(o:Obj):bF (w.alloc o) base E v l:=h.below ((zm _ _).alloc (zg _) o)
theorem bF.drew (h:bF w base E v l):bF w.drew base E v l:=h
theorem bF.mono {c:Nat}(h:bF w base E v l)(j:c<=base):bF w c E v l:=by
 obtain⟨A,cap,d,e,i,b⟩:=h;refine⟨A,cap,d,e,i, ?_⟩;rcases b with b|⟨g,cur,fr,hA,hg,r⟩
 ·exact .inl b
 exact .inr ⟨g,cur,fr,hA,by omega,r⟩
theorem bF.only (h:bF w base E v l)(k:ae L w w')(e:∀g,g∈L->g<base\/∃d t b,w.heap[g]?=some (.cells d t b)/\t≠E):bF w' base E v l:=by
 obtain⟨A,cap,i,m,n,c⟩:=h;refine⟨A,cap,i,m,n, ?_⟩;rcases c with c|⟨g,cur,b,hA,hg,hh,r⟩
 ·exact .inl c
 refine .inr ⟨g,cur,b,hA,hg,(k.block g (yg.1 hh).1 fun j=> ?_).trans hh,r⟩;rcases e g j with h5|⟨d,t,fr',h5,h6⟩
 ·omega
 rw[hh]at h5;injection h5 with h5;injection h5 with _ h7;exact h6 h7.symm
theorem bF.own (h:w.ownsRow base E 1 v l.length (cb l)):bF w base E v l:=by
 obtain⟨p,b⟩:=h;rcases b with⟨b,m⟩|⟨g,cap,e,n,k,i,o,c,d,j⟩
 ·refine⟨none,0,by rw[b,m],by omega,by simp,.inl ⟨rfl,rfl⟩⟩
 exact⟨some ⟨g,0,none⟩,cap,n,o,by simpa[maxLen]using c,.inr ⟨g,e,(0,0),rfl,k,i,by simpa using d,by simpa using j,.inl rfl⟩⟩
theorem eL {c:Array Value}{b:Nat×Nat}(e:w.heap[g]?=some (.cells c E b))(d:b.2=0\/i<b.1):w.frozen? ⟨g,i,none⟩=false:=by
 obtain⟨h,hi⟩:=b;simp[World.frozen?,e];simp at d;omega
theorem bF.cells (h:bF w base E (.slice A l.length cap) l):∀a,A=some a->∀j u,(cb l)[j]?=some u->w.cell? (a.add j)=some u:=by
 obtain⟨o,p,k,x,B,d⟩:=h;injection k with c _ hc;subst c;subst hc;intro a b j u hu;rcases d with⟨d,_⟩|⟨g,q,r,c,z,e,s,n,y⟩
 ·rw[d]at b;cases b
 rw[c]at b;injection b with b;subst b;have i:(⟨g,0,none⟩:Addr).add j=⟨g,j,none⟩:=by unfold Addr.add;split<;>simp_all
 have m:j<l.length:=by have:=(Zc.1 hu).1;rwa [bj]at this
 rw[i];simp only[World.cell?,e];rw[<-n,yO m]at hu;simpa using hu
theorem bF.str {P:Program}{src dst e:TypeId}(d:P.underlying src=some (.slice e))(i:P.underlying e=some (.int .u8))(hd:P.underlying dst=some .string)
 (h:bF w base E (.slice A l.length cap) l):(convert src dst (.slice A l.length cap)).run P w= .ok (.string ⟨l.toArray⟩) w:=by
 cases A with
 |none=>
  obtain⟨m,n,k,q,r,c⟩:=h;injection k with b _ hc;subst b;subst hc;rcases c with⟨_,c⟩|⟨g,o,p,b,_⟩
  ·subst c;have j:l= []:=zp (by omega);subst j;rw[ZZ w src dst e none _ 0 d i hd];rfl
  cases b
 |some a=>exact CJ w src dst e d i hd a cap l (h.cells a rfl)
theorem bF.len (h:bF w base E (.slice A n cap) l):n=l.length/\n<=cap/\cap<=9223372036854775807:=by
 obtain⟨e,i,b,c,d,_⟩:=h;injection b with hA hn hc;subst hc;subst hn;exact⟨rfl,c,d⟩
theorem bF.Ex {P:Program}{src dst e:TypeId}(b:P.underlying src=some (.slice e))(c:P.underlying e=some (.int .u8))(hd:P.underlying dst=some .string)
 (h:bF w base E (.slice A n cap) l):(convert src dst (.slice A n cap)).run P w= .ok (.string ⟨l.toArray⟩) w:=by
 obtain⟨d,_⟩:=h.len;subst d;exact h.str b c hd
theorem bF.conv (w:World)(base:Nat)(E:TypeId)(s:ByteArray)(d:base<=w.heap.size)(b:s.size<=9223372036854775807):bF (Lib.bytesWorld w E s) base E (.slice (some ⟨w.heap.size,0,none⟩) s.size (grownCap w s.size 0 E)) s.data.toList:=by
 have e:=grownCap_ge w s.size 0 E;have c:=ZL w s.size 0 E (by simpa[maxLen]using b);have hz:(Lib.bytesCells w E s).size=grownCap w s.size 0 E:=by simp[Lib.bytesCells];omega
 refine⟨_,_,by rw[aa],by rw[aa];exact e,by simpa[maxLen]using c,.inr ⟨w.heap.size,Lib.bytesCells w E s,_,rfl,d,Lib.bytesWorld_at_new w E s,hz, ?_,.inr (by rw[hz];exact zg _)⟩⟩;simp[Lib.bytesCells,cb]
theorem jr {o:Nat}{c:Array Value}{b:Nat×Nat}(v:Value)(h:w.heap[g]?=some (.cells c E b)):(w.setCell ⟨g,o,none⟩ v).heap[g]?=some (.cells (c.setIfInBounds o v) E b):=by
 simp[World.setCell,Zs,h]
theorem iL {i:Nat×Nat}:∀(c:List Value) (o:Nat) (w:World) (b:Array Value),w.heap[g]?=some (.cells b E i)->o+c.length<=b.size->
 ∃d,(w.setCells g o c).heap[g]?=some (.cells d E i)/\d.size=b.size/\d.toList.take (o+c.length)=b.toList.take o++c
 | [],o,w,b,h,_=>⟨b,h,rfl,by simp⟩
 |v::c,o,w,b,h,hl=>by
  simp only[zx]at hl;obtain⟨d,j,k,l⟩:=iL c (o+1) (w.setCell ⟨g,o,none⟩ v) (b.setIfInBounds o v) (jr v h) (by simp;omega);refine⟨d,j,by simpa using k, ?_⟩;rw[zx,show o+(c.length+1)=o+1+c.length from by omega,l];have e:(b.setIfInBounds o v).toList.take (o+1)=b.toList.take o++ [v]:=by
   rw[ZR,yn (by simp;omega),List.getElem_set_self,List.take_set_of_le (zg _)]
  rw[e,zE];rfl
theorem iM (w:World)(g o:Nat)(b:List Value):(w.setCells g o b).heap.size=w.heap.size:=by
 induction b generalizing w o with
 |nil=>rfl
 |cons v b ih=>rw[World.setCells,ih];simp[World.setCell]
theorem kI (w:World)(g o:Nat)(b:List Value):(w.setCells g o b).tape=w.tape:=by
 induction b generalizing w o with
 |nil=>rfl
 |cons v b ih=>rw[World.setCells,ih];rfl
theorem oH {o:Nat}{h:Array Value}{i:Nat×Nat}(l:w.heap[g]?=some (.cells h E i))(n:base<=g)(c:List Value):Kept E base w (w.setCells g o c):=by
 have d:∀k,k≠g->(w.setCells g o c).heap[k]?=w.heap[k]?:=by
  intro k b;by_cases e:k<w.heap.size
  ·exact ZS w g o c e b
  rw[xQ (by rw[iM];omega),xQ (by omega)]
 refine⟨⟨World.os_setCells w g o c,kI w g o c,Yh w g o c,by rw[iM];exact zg _,fun k b=>d k (by omega)⟩,fun k m b j=> ?_⟩;rw[d k (by rintro rfl;rw[l]at b;injection b with b;exact j _ _ b.symm)];exact b
theorem bF.at_ (h:bF w base E (.slice (some ⟨g,0,none⟩) n cap) l)(d:k<l.length):w.cell? ⟨g,k,none⟩=some (.int .u8 (l.getD k 0).toNat)/\w.frozen? ⟨g,k,none⟩=false/\base<=g/\g<w.heap.size:=by
 obtain⟨r,s,m,z,A,e⟩:=h;injection m with b hn hc;subst b;subst hc;subst hn;rcases e with⟨e,_⟩|⟨q,u,x,b,p,c,y,j,o⟩
 ·cases e
 injection b with b;injection b with b;subst b;refine⟨?_,eL c (by rcases o with h|h;exact .inl h;exact .inr (by omega)),p,(yg.1 c).1⟩;have i:(cb l)[k]?=some (.int .u8 (l.getD k 0).toNat):=by rw[Ev,zB d,zw,zB d];rfl
 rw[<-j,yO d]at i;simp only[World.cell?,c];simpa using i
theorem bF.set (h:bF w base E (.slice (some ⟨g,0,none⟩) n cap) l)(A:k<l.length)(b:UInt8):bF (w.setCell ⟨g,k,none⟩ (.int .u8 b.toNat)) base E (.slice (some ⟨g,0,none⟩) n cap) (l.set k b):=by
 obtain⟨x,y,m,o,r,d⟩:=h;injection m with c hn hc;subst c;subst hc;subst hn;rcases d with⟨d,_⟩|⟨u,z,e,c,q,i,j,s,p⟩
 ·cases d
 injection c with c;injection c with c;subst c;refine⟨_,cap,by rw[Zh],by rw[Zh];exact o,r,.inr ⟨g,_,e,rfl,q,jr _ i,by simpa using j, ?_,p⟩⟩;rw[Zh,ZR,List.take_set,s];simp[cb,List.map_set]
theorem Kept.store {d:Array Value}{c:Nat×Nat}(h:Kept E base a w)(e:w.heap[g]?=some (.cells d E c))(b:base<=g)(v:Value):Kept E base a (w.setCell ⟨g,k,none⟩ v):=
 h.trans (oH (o:=k) e b [v])
theorem bF.block (h:bF w base E (.slice (some ⟨g,0,none⟩) n cap) l):∃c d,w.heap[g]?=some (.cells c E d)/\base<=g:=by
 obtain⟨o,p,j,r,u,e⟩:=h;injection j with b _ hc;subst b;rcases e with⟨e,_⟩|⟨m,c,d,b,k,i,q,x,s⟩
 ·cases e
 injection b with b;injection b with b;subst b;exact⟨c,d,i,k⟩
theorem uQ (n:Nat):(madeCells (Value.int .u8 0).cells (n*1)).toList=cb (List.replicate n 0):=by
 have b:(Value.int .u8 0).cells= #[.int .u8 0]:=rfl;rw[b,xW];apply List.ext_getElem
 ·simp[madeCells,cb]
 intro i c d;simp[madeCells,cb,Nat.mod_one]
theorem bF.append {P:Program}(h:bF w base E v l)(t d ty:TypeId)(i:TypeInfo)(B:P.underlying t=some (.slice E))(hi:P.info? E=some i)(hz:i.zero=some (.int .u8 0))(k:i.size=1)(X:i.bytes=1)
 (c:Value) (m:List UInt8) (O:Src P 1 d c m.length (cb m) w) (D:base<=w.heap.size) (Z:l.length+m.length<=140737488355328):
 ∃H w',(Builtin.append_ #[t,d] ty #[v,c]).run P w= .ok H w'/\bF w' base E H (l++m)/\Kept E base w w':=by
 obtain⟨A,cap,rfl,M,J,F⟩:=h;have C:Src P i.size d c m.length (cb m) w:=by rw[k];exact O
 by_cases G:l.length+m.length<=cap
 ·rcases F with⟨b,z⟩|⟨g,p,y,b,q,e,x,s,n⟩
  ·subst b;subst z;have u:l= []:=zp (by omega);have R:m= []:=zp (by omega);subst u;subst R;exact⟨_,w,Go.run_append_nothing w t d ty E i B hi none 0 0 (zg _) c C,bF.nil w base E,Kept.refl E base w⟩
  subst b;have o:=run_append_room_src (P:=P) w t d ty E i B hi g 0 l.length cap c m.length (cb m) C G
   (by
    intro j r;rw[bj]at r;have:0+l.length*i.size+j<p.size:=by rw[k,x];omega
    simp only[World.cell?,e];rw[ZT this];rfl)
   (by
    intro j r;rw[bj]at r;exact eL e (by rw[k];rcases n with h|h;exact .inl h;exact .inr (by omega)))
  rw[k,xW,zQ]at o;obtain⟨N,K,Y,I⟩:=iL (cb m) l.length w p e (by rw[bj];omega);refine⟨_,_,o,⟨_,cap,by rw[zl],by rw[zl];exact G,J,.inr ⟨g,N,y,rfl,q,K,by omega, ?_,n⟩⟩,oH e q _⟩;rw[zl,gE];rw[bj,s]at I;exact I
 have U:(Builtin.firstCells i.size l.length (.slice A l.length cap)).run P w.drew= .ok (cb l).toArray w.drew:=by
  rcases F with⟨b,z⟩|⟨g,p,y,b,q,e,x,s,n⟩
  ·subst b;subst z;have u:l= []:=zp (by omega);subst u;exact run_firstCells_none w.drew i.size 0 0 0
  have W:=bF.cells (w:=w) (base:=base) (E:=E) (A:=A) (cap:=cap) (l:=l) ⟨A,cap,rfl,M,J,.inr ⟨g,p,y,b,q,e,x,s,n⟩⟩ ⟨g,0,none⟩ b;subst b;exact run_firstCells_some w.drew i.size l.length _ l.length cap (cb l) (by rw[bj,k,xW]) W
 have S:Builtin.nextslicecap (l.length+m.length) cap*i.bytes<=281474976710656:=by
  rw[X];exact growslice_fits (by omega) (by omega)
 have o:=run_append_grow_src (P:=P) w t d ty E i (.int .u8 0) B hi hz A l.length cap (cb l) U c m.length (cb m) C (by omega) (by omega) S;have L:=grownCap_ge w (l.length+m.length) cap E;have g2:=ZL w (l.length+m.length) cap E (by simp[maxLen];omega);refine⟨_,_,o,⟨_,_,by rw[zl],by rw[zl];exact L,by simpa[maxLen]using g2,.inr ⟨w.heap.size,_,(0,0),rfl,D,yR w.drew _, ?_, ?_,.inl rfl⟩⟩,((Kept.refl E base w).drew.alloc (by simpa using D) _)⟩
 ·simp only[Array.size_append,ZX,zl,bj,size_zeroCells];have:(Value.int .u8 0).cells.size=1:=rfl;rw[this];omega
 rw[Array.toList_append,zl,zZ (by simp[bj]),gE];exact zz (by simp[bj])
theorem Kept.J8 (h:w.grownBy w' none)(c:base<=w.heap.size):Kept E base w w':=
 ⟨⟨h.os,h.tape,h.output,h.size,fun k b=>h.block k (by omega) (by simp)⟩,fun k o b _=>(h.block k (yg.1 b).1 (by simp)).trans b⟩
theorem aP {P:Program}{a:Act}(A:o.guard=none)(s x:Operand)(t d:TypeId)
 (C:o.op= .call {callee:= .builtin .append,args:= #[s,x],argTypes:= #[t,d]}) (base:Nat) (E:TypeId) (i:TypeInfo) (F:P.underlying t=some (.slice E)) (hi:P.info? E=some i) (hz:i.zero=some (.int .u8 0)) (G:i.size=1) (H:i.bytes=1)
   (D:a.eval s=v) (h:bF w base E v l) (b:Value) (m:List UInt8) (hx:a.eval x=b) (B:Src P 1 d b m.length (cb m) w) (p:base<=w.heap.size) (r:l.length+m.length<=140737488355328)
 (u:∀(c:Option Addr) (k e:Nat) w',bF w' base E (.slice c k e) (l++m)->Kept E base w w'->wpList P ops Q rest (a.put o.dst (.slice c k e)) w'):wpList P ops Q (o::rest) a w:=by
 refine wpList_plain A fun K n=> ?_
 obtain⟨I,w',z,j,y⟩:=h.append (P:=P) t d o.type i F hi hz G H b m B p r;obtain⟨c,e,q,_⟩:=j.form;unfold Oper.wp;simp[execOp,C,resolve,invoke,builtin,D,hx,z,Result.andThen];subst q;exact n _ _ (u _ _ _ w' j y)
theorem kn {P:Program}{e:TypeId}(i:P.underlying d=some (.slice e))(w:World)(E:TypeId)(b:Array Value)(m:List UInt8)(c:Nat)(h:b.toList=cb m):Src P 1 d (.slice (some ⟨w.heap.size,0,none⟩) m.length c) m.length (cb m) (w.alloc (.cells b E)):=
 Src.ofSlice _ i _ _ _ _ (by rw[bj,xW]) (fun j u hu=>ZF (yR w (.cells b E)) j u (by rw[<-h]at hu;simpa using hu)) (rE m)
theorem iN {P:Program}{b:TypeId}(c:P.underlying b=some .string)(w:World)(s:ByteArray):Src P 1 b (.string s) s.data.toList.length (cb s.data.toList) w:=by
 have:=Src.ofString (P:=P) w c s;rw[aa];exact this
theorem J9 {P:Program}{j:TypeId}(e:P.underlying d=some (.slice j)){m:List UInt8}(h:bF w base E v m):Src P 1 d v m.length (cb m) w:=by
 obtain⟨A,cap,rfl,q,r⟩:=h.form;cases A with
 |none=>
  obtain⟨l,n,k,_,_,c⟩:=h;injection k with b _ hc;subst b;subst hc;rcases c with⟨_,c⟩|⟨g,o,p,b,_⟩
  ·subst c;have i:m= []:=zp (by omega);subst i;exact Src.ofNil w e 0
  cases b
 |some ad=>exact Src.ofSlice w e ad _ _ _ (by rw[bj,xW]) (h.cells ad rfl) (rE m)
theorem o5 {a:Int}(h:a=x)(hx:x<256):(#[Value.int .u8 a]:Array Value).toList=cb [ub x]:=by
 subst h;simp[cb,bo x hx]
theorem O3 {a b:Int}{y:Nat}(h:a=x)(hx:x<256)(c:b=y)(d:y<256):(#[Value.int .u8 a,.int .u8 b]:Array Value).toList=cb [ub x,ub y]:=by
 subst h;subst c;simp[cb,bo x hx,bo y d]
theorem ud {P:Program}{e:TypeId}(j:P.underlying d=some (.slice e))(w:World)(E:TypeId)(b:Array Value)(m:List UInt8)(c g:Nat)(i:g=w.heap.size)(h:b.toList=cb m):Src P 1 d (.slice (some ⟨g,0,none⟩) m.length c) m.length (cb m) (w.alloc (.cells b E)):=by
 subst i;exact kn j w E b m c h
theorem bF.cF (h:bF w base E v l):∃A n cap,v= .slice A n cap/\Hid (n=l.length)/\n<=cap/\cap<=9223372036854775807:=by
 obtain⟨A,cap,b,c,d⟩:=h.form;exact⟨A,_,cap,b,za rfl,c,d⟩
theorem af.kept {b:Array Value}(h:af w g t b)(i:Kept E base w w')(d:t≠E):af w' g t b:=i.other g _ h (by
 intro c f e;injection e with _ e2;exact d e2)
theorem af.ag {b:Array Value}(h:af w g t b)(c:Below B w w')(d:g<B):af w' g t b:=(c.block g d).trans h
theorem a8 {a b c:Value}(h:af w g t #[a,b,c]):w.cell? ⟨g,0,none⟩=some a/\w.cell? ⟨g,1,none⟩=some b/\w.cell? ⟨g,2,none⟩=some c/\w.frozen? ⟨g,0,none⟩=false/\w.frozen? ⟨g,1,none⟩=false/\w.frozen? ⟨g,2,none⟩=false:=
 ⟨h.cell 0,h.cell 1,h.cell 2,h.frozen 0,h.frozen 1,h.frozen 2⟩
structure lF (w w':World)(v v':Value):Prop where
 grown:w.grownBy w' v.ownBlock
 own:v'.ownBlock=v.ownBlock\/∃g,v'.ownBlock=some g/\w.heap.size<=g
theorem lF.refl (w:World)(v:Value):lF w w v v:=⟨World.grownBy.refl _ _,.inl rfl⟩
theorem lF.size {v':Value}(h:lF w w' v v'):w.heap.size<=w'.heap.size:=h.grown.size
theorem lF.trans {b c:World}{i l:Value}(h:lF a b v i)(k:lF b c i l):lF a c v l:=by
 refine⟨h.grown.andThen k.grown fun j d=> ?_, ?_⟩
 ·rcases h.own with e|⟨g,e,hg⟩
  ·exact .inr (by rw[<-e,d])
  rw[e]at d;injection d with d;exact .inl (by omega)
 rcases k.own with e|⟨g,e,hg⟩
 ·rcases h.own with e2|⟨g2,e2,ri⟩
  ·exact .inl (e.trans e2)
  exact .inr ⟨g2,e.trans e2,ri⟩
 exact .inr ⟨g,e,by have:=h.size;omega⟩
theorem cD {b:World}(h:Below a.heap.size a b):a.grownBy b none:=⟨h.os,h.tape,h.output,h.size,fun k c _=>h.block k c⟩
theorem ko {b:World}(h:a.grownBy b none)(r:Option Nat):a.grownBy b r:=⟨h.os,h.tape,h.output,h.size,fun k c _=>h.block k c (by simp)⟩
theorem lF.ahead {b c:World}{d:Value}(h:Below a.heap.size a b)(k:lF b c v d):lF a c v d:=(show lF a b v v from⟨ko (cD h) _,.inl rfl⟩).trans k
theorem lF.behind {b c:World}{d:Value}(h:lF a b v d)(k:Below b.heap.size b c):lF a c v d:=h.trans (show lF b c d d from⟨ko (cD k) _,.inl rfl⟩)
theorem lF.below {b c:World}{d:Value}(h:Below B a b)(k:lF b c v d)(i:B<=b.heap.size)(e:∀g,v.ownBlock=some g->B<=g):Below B a c:=h.grown k.grown i e
theorem lF.block {b:World}{c:Value}(h:lF a b v c)(i:k<a.heap.size)(d:v.ownBlock≠some k):b.heap[k]?=a.heap[k]?:=h.grown.block k i (fun e=>d e.symm)
theorem bF.ge (h:bF w base E v l):∀g,v.ownBlock=some g->base<=g/\g<w.heap.size/\∃c b,w.heap[g]?=some (.cells c E b):=by
 obtain⟨A,cap,rfl,n,o,j⟩:=h;intro g e;rcases j with⟨d,_⟩|⟨k,c,b,d,m,i,_⟩
 ·subst d;cases e
 subst d;have:k=g:=by simpa[Value.ownBlock]using e
 subst this;exact⟨m,yP i,c,b,i⟩
theorem bF.cy {d:Array Value}{c:Nat×Nat}(h:bF w base E v l)(j:w.heap[g]?=some (.cells d t c))(i:t≠E):v.ownBlock≠some g:=by
 intro e;obtain⟨_,_,k,m,b⟩:=h.ge g e;rw[j]at b;injection b with b;injection b with _ b;exact i b
theorem bF.ag (h:bF w base E v l)(d:∀k,k<w.heap.size->v.ownBlock=some k->w'.heap[k]?=w.heap[k]?):bF w' base E v l:=by
 obtain⟨A,cap,rfl,c,e,b⟩:=h;refine⟨A,cap,rfl,c,e, ?_⟩;rcases b with b|⟨g,cur,fr,hA,hg,hh,r⟩
 ·exact .inl b
 exact .inr ⟨g,cur,fr,hA,hg,(d g (yP hh) (by subst hA;rfl)).trans hh,r⟩
theorem af.Ma {b:Array Value}{c:Value}(h:af w g t b)(d:lF w w' v c)(e:v.ownBlock≠some g):af w' g t b:=(d.block h.lt e).trans h
theorem bF.Tm {P:Program}(h:bF w base E v l)(t d ty:TypeId)(i:TypeInfo)(D:P.underlying t=some (.slice E))(hi:P.info? E=some i)(hz:i.zero=some (.int .u8 0))(o:i.size=1)(rf:i.bytes=1)
 (c:Value) (m:List UInt8) (W:Src P 1 d c m.length (cb m) w) (O:base<=w.heap.size) (aa:l.length+m.length<=140737488355328):
 ∃B w',(Builtin.append_ #[t,d] ty #[v,c]).run P w= .ok B w'/\bF w' base E B (l++m)/\lF w w' v B:=by
 obtain⟨A,cap,rfl,R,K,H⟩:=h;have F:Src P i.size d c m.length (cb m) w:=by rw[o];exact W
 by_cases I:l.length+m.length<=cap
 ·rcases H with⟨b,C⟩|⟨g,r,z,b,G,n,y,u,p⟩
  ·subst b;subst C;have x:l= []:=zp (by omega);have X:m= []:=zp (by omega);subst x;subst X;exact⟨_,w,Go.run_append_nothing w t d ty E i D hi none 0 0 (zg _) c F,bF.nil w base E,lF.refl _ _⟩
  subst b;have q:=run_append_room_src (P:=P) w t d ty E i D hi g 0 l.length cap c m.length (cb m) F I
   (by
    intro j s;rw[bj]at s;have:0+l.length*i.size+j<r.size:=by rw[o,y];omega
    simp only[World.cell?,n];rw[ZT this];rfl)
   (by
    intro j s;rw[bj]at s;exact eL n (by rw[o];rcases p with h|h;exact .inl h;exact .inr (by omega)))
  rw[o,xW,zQ]at q;obtain⟨S,L,c2,J⟩:=iL (cb m) l.length w r n (by rw[bj];omega);refine⟨_,_,q,⟨_,cap,by rw[zl],by rw[zl];exact I,K,.inr ⟨g,S,z,rfl,G,L,by omega, ?_,p⟩⟩,⟨World.os_setCells _ _ _ _,kI _ _ _ _,Yh _ _ _ _,by rw[iM];exact zg _,fun k hk U=>ZS w g l.length (cb m) hk (fun e=>U (by subst e;rfl))⟩,.inl rfl⟩;rw[zl,gE];rw[bj,u]at J;exact J
 have Z:(Builtin.firstCells i.size l.length (.slice A l.length cap)).run P w.drew= .ok (cb l).toArray w.drew:=by
  rcases H with⟨b,C⟩|⟨g,r,z,b,G,n,y,u,p⟩
  ·subst b;subst C;have x:l= []:=zp (by omega);subst x;exact run_firstCells_none w.drew i.size 0 0 0
  have N:=bF.cells (w:=w) (base:=base) (E:=E) (A:=A) (cap:=cap) (l:=l) ⟨A,cap,rfl,R,K,.inr ⟨g,r,z,b,G,n,y,u,p⟩⟩ ⟨g,0,none⟩ b;subst b;exact run_firstCells_some w.drew i.size l.length _ l.length cap (cb l) (by rw[bj,o,xW]) N
 have Y:Builtin.nextslicecap (l.length+m.length) cap*i.bytes<=281474976710656:=by
  rw[rf];exact growslice_fits (by omega) (by omega)
 have q:=run_append_grow_src (P:=P) w t d ty E i (.int .u8 0) D hi hz A l.length cap (cb l) Z c m.length (cb m) F (by omega) (by omega) Y;have M:=grownCap_ge w (l.length+m.length) cap E;have g2:=ZL w (l.length+m.length) cap E (by simp[maxLen];omega);refine⟨_,_,q,⟨_,_,by rw[zl],by rw[zl];exact M,by simpa[maxLen]using g2,.inr ⟨w.heap.size,_,(0,0),rfl,O,yR w.drew _, ?_, ?_,.inl rfl⟩⟩,ko (cD ((zm w.heap.size w).drew.alloc (by simp) _)) _,.inr ⟨w.heap.size,rfl,zg _⟩⟩
 ·simp only[Array.size_append,ZX,zl,bj,size_zeroCells];have:(Value.int .u8 0).cells.size=1:=rfl;rw[this];omega
 rw[Array.toList_append,zl,zZ (by simp[bj]),gE];exact zz (by simp[bj])
theorem mW {P:Program}{a:Act}{K:Act->World->Prop}(s x:Operand)(t e:TypeId)
 (A:o.op= .call {callee:= .builtin .append,args:= #[s,x],argTypes:= #[t,e]}) (base:Nat) (E:TypeId) (i:TypeInfo) (C:P.underlying t=some (.slice E)) (hi:P.info? E=some i) (hz:i.zero=some (.int .u8 0)) (D:i.size=1) (F:i.bytes=1)
   (B:a.eval s=v) (h:bF w base E v l) (d:Value) (m:List UInt8) (hx:a.eval x=d) (z:Src P 1 e d m.length (cb m) w) (n:base<=w.heap.size) (q:l.length+m.length<=140737488355328)
 (r:∀(b:Option Addr) (j c:Nat) w',bF w' base E (.slice b j c) (l++m)->lF w w' v (.slice b j c)->K (a.put o.dst (.slice b j c)) w'):Oper.wp P o a w K Q:=by
 obtain⟨G,w',y,k,u⟩:=h.Tm (P:=P) t e o.type i C hi hz D F d m z n q;obtain⟨b,c,p,_⟩:=k.form;unfold Oper.wp;simp[execOp,A,resolve,invoke,builtin,B,hx,y,Result.andThen];subst p;exact r _ _ _ w' k u
theorem bW {P:Program}{a:Act}(y:o.guard=none)(s x:Operand)(t j:TypeId)
 (A:o.op= .call {callee:= .builtin .append,args:= #[s,x],argTypes:= #[t,j]}) (base:Nat) (E:TypeId) (i:TypeInfo) (C:P.underlying t=some (.slice E)) (hi:P.info? E=some i) (hz:i.zero=some (.int .u8 0)) (D:i.size=1) (F:i.bytes=1)
   (B:a.eval s=v) (h:bF w base E v l) (e:Value) (m:List UInt8) (hx:a.eval x=e) (z:Src P 1 j e m.length (cb m) w) (p:base<=w.heap.size) (q:l.length+m.length<=140737488355328)
 (r:∀(b:Option Addr) (c d:Nat) w',bF w' base E (.slice b c d) (l++m)->lF w w' v (.slice b c d)->wpList P ops Q rest (a.put o.dst (.slice b c d)) w'):wpList P ops Q (o::rest) a w:=
 wpList_plain y fun _ n=>mW s x t j A base E i C hi hz D F B h e m hx z p q fun b c d w' k u=>n _ _ (r b c d w' k u)
theorem rG {P:Program}{a:Act}{K:Act->World->Prop}{k:Prop}(r:o.guard=none)(s x:Operand)(t d:TypeId)
 (z:o.op= .call {callee:= .builtin .append,args:= #[s,x],argTypes:= #[t,d]}) (base:Nat) (E:TypeId) (i:TypeInfo) (B:P.underlying t=some (.slice E)) (hi:P.info? E=some i) (hz:i.zero=some (.int .u8 0)) (C:i.size=1) (D:i.bytes=1)
   (A:a.eval s=v) (h:bF w base E v l) (b:Value) (m:List UInt8) (hx:a.eval x=b) (u:Src P 1 d b m.length (cb m) w) (n:base<=w.heap.size) (p:l.length+m.length<=140737488355328)
 (q:∀(c:Option Addr) (e j:Nat) w',bF w' base E (.slice c e j) (l++m)->lF w w' v (.slice c e j)->K (a.put o.dst (.slice c e j)) w'):
 if Region.wanted o (yielded ops a.tmps)=true then Oper.wp P o a w K Q else k:=by
 have y:Region.wanted o (yielded ops a.tmps)=true:=by simp[Region.wanted,r]
 rw[zi y];exact mW s x t d z base E i B hi hz C D A h b m hx u n p q
theorem o6 {b:UInt8}(c:s.data.toList[k]?=some b):∃h:k<s.size,s[k]=b:=by
 have h:k<s.size:=by
  have:=(Zc.1 c).1;simpa using this
 refine⟨h, ?_⟩;rw[gR s k h]at c;injection c
theorem kX {size f b c:Nat}{out d:List UInt8}(h:k<s.size)(i:s[k].toNat=b)(e:bX s size k b out=(0,c,d)):fR s size (f+1) k out=fR s size f c d:=by
 rw[fR,ZU h,i,e,zi rfl]
def aR (n:Nat):List UInt8:=if n<128 then [ub n]else ub (n%128+128:Nat)::aR (n/128)
termination_by n
theorem iq (h:n<128):aR n= [ub n]:=by rw[aR,zi h]
theorem jE (h:¬n<128):aR n=ub (n%128+128:Nat)::aR (n/128):=by rw[aR,zh h]
theorem Ey (n:Nat):1<=(aR n).length:=by
 by_cases h:n<128
 ·simp[iq h]
 simp[jE h]
theorem bA (k:Nat):∀n,n<128^k->1<=k->(aR n).length<=k:=by
 induction k with
 |zero=>intro n _ h;omega
 |succ k ih=>
  intro n b _;by_cases h:n<128
  ·simp[iq h]
  rw[jE h,zx];rcases Zi k with h0|h0
  ·subst h0;simp at b;omega
  have:=ih (n/128) (by rw[Zl]at b;exact xX (by rw[Zm];exact b)) h0;omega
theorem Mb (n:Nat):∀(s:ByteArray) (pre rest:List UInt8) (i m:Nat),s.data.toList=pre++(aR n++rest)->pre.length=i->i<=9->n<2^(64-7*i)->(i=0\/0<n)->
 cq s (10-i) i m=(m+n*2^(7*i),i+(aR n).length,0):=by
 induction n using Nat.strongRecOn with
 |ind n ih=>
  intro s pre rest i m d j hi r w;rw[show 10-i=(9-i)+1 from by omega];have o:i=9->n<=1:=by
   intro h;subst h;have:(2:Nat)^(64-7*9)=2:=by decide
   omega
  by_cases h:n<128
  ·rw[iq h]at d⊢;obtain⟨g,e⟩:=o6 (s:=s) (k:=i) (b:=ub n) (by rw[d,yo (by omega),j];simp);have c:s[i].toNat=n:=by rw[e,bo n (by omega)]
   rw[ij s _ i m g (by rw[c];omega) (by rw[c];exact h),c,Nat.mod_eq_of_lt h];simp
  rw[jE h]at d⊢;obtain⟨g,e⟩:=o6 (s:=s) (k:=i) (b:=ub (n%128+128:Nat)) (by rw[d,yo (by omega),j];simp);have c:s[i].toNat=n%128+128:=by rw[e,bo _ (by omega)]
  rw[ik s _ i m g (by rw[c];omega) (by rw[c];omega),c];have u:7*i+7<=64:=by
   rcases xG i 9 with h9|h9
   ·omega
   have:=o (by omega);omega
  have l:2^(64-7*i)=2^(64-7*(i+1))*128:=by
   rw[show 64-7*i=(64-7*(i+1))+7 from by omega,xV]
  have hd:n/128<2^(64-7*(i+1)):=xX (by rw[Zm,<-l];exact r);have:=ih (n/128) (by omega) s (pre++ [ub (n%128+128:Nat)]) rest (i+1) (m+(n%128+128)%128*2^(7*i)) (by rw[d];simp) (by simp;omega) (by omega) hd (Or.inr (by omega));rw[show 9-i=10-(i+1)from by omega,this];have p:2^(7*(i+1))=128*2^(7*i):=by rw[show 7*(i+1)=7+7*i from by omega,xV]
  have q:m+(n%128+128)%128*2^(7*i)+n/128*2^(7*(i+1))=m+n*2^(7*i):=by
   rw[p,show(n%128+128)%128=n%128 from by omega,<-Nat.mul_assoc,yh,<-Nat.add_mul,show n%128+n/128*128=n from by omega]
  rw[q];exact ZA rfl (ZA (by simp only[zx];omega) rfl)
theorem kq (n:Nat)(s:ByteArray)(rest:List UInt8)(b:s.data.toList=aR n++rest)(c:n<18446744073709551616):ay s=(n,(aR n).length,0):=by
 have:=Mb n s [] rest 0 0 (by simpa using b) rfl (by omega) (by simpa using c) (Or.inl rfl);simpa[ay]using this
def mt (L:List UInt8)(j i:Nat):Nat->Nat
 |0=>0
 |f+1=>if i<L.length/\L[j]?=L[i]? then mt L (j+1) (i+1) f+1 else 0
def Ho (L:List UInt8)(i:Nat):Nat->Option Nat
 |0=>none
 |j+1=>if 4<=mt L j i 64 then some j else Ho L i j
def ir (l:List UInt8):List UInt8:=
 if l.length=0 then []else if l.length<=60 then ub (4*(l.length-1):Nat)::l
 else if l.length<=256 then 240::ub (l.length-1:Nat)::l
 else 244::ub ((l.length-1)%256:Nat)::ub ((l.length-1)/256:Nat)::l
def kY (n d:Nat):List UInt8:=
 if n<=11/\d<2048 then [ub (1+4*(n-4)+32*(d/256):Nat),ub (d%256:Nat)]
 else [ub (2+4*(n-1):Nat),ub (d%256:Nat),ub (d/256:Nat)]
def pk (L:List UInt8):Nat->Nat->Nat->List UInt8
 |0,_,_=> []
 |f+1,p,i=>if i<L.length then
  (match Ho L i i with
  |none=>pk L f p (i+1)
  |some j=>ir ((L.take i).drop p)++(kY (mt L j i 64) (i-j)++pk L f (i+mt L j i 64) (i+mt L j i 64)))
  else ir (L.drop p)
def pack (L:List UInt8):List UInt8:=aR L.length++pk L (L.length+1) 0 0
theorem BK (L:List UInt8)(f:Nat):∀j i,mt L j i f<=f/\(i<=L.length->i+mt L j i f<=L.length):=by
 induction f with
 |zero=>intro j i;simp[mt]
 |succ f ih=>
  intro j i;have:=ih (j+1) (i+1);unfold mt;split<;>omega
theorem Ez (L:List UInt8)(f:Nat):∀j i n,n<mt L j i f->L[j+n]?=L[i+n]?:=by
 induction f with
 |zero=>intro j i n h;simp[mt]at h
 |succ f ih=>
  intro j i n h;unfold mt at h;split at h
  ·rename_i b
   cases n with
   |zero=>exact b.2
   |succ n=>
    have:=ih (j+1) (i+1) n (by omega);rw[show j+(n+1)=j+1+n from by omega,show i+(n+1)=i+1+n from by omega];exact this
  omega
theorem pT (L:List UInt8)(i:Nat):∀k j,Ho L i k=some j->j<k/\4<=mt L j i 64:=by
 intro k;induction k with
 |zero=>intro j h;simp[Ho]at h
 |succ k ih=>
  intro j h;unfold Ho at h;split at h
  ·rename_i b
   injection h with h;subst h;exact⟨by omega,b⟩
  have:=ih j h;omega
theorem WC (L:List UInt8)(j i:Nat)(e:j<i)(hi:i<=L.length):∀n,n<=mt L j i 64->tY (L.take i) (i-j) n=L.take (i+n):=by
 intro n;induction n with
 |zero=>intro _;rfl
 |succ n ih=>
  intro h;have d:=(BK L 64 j i).2 hi;rw[Ej,ih (by omega)];have b:(L.take (i+n)).length=i+n:=by rw[zV];omega
  have c:=Ez L 64 j i n (by omega);rw[b,show i+n-(i-j)=j+n from by omega,show i+(n+1)=(i+n)+1 from by omega,yn (by omega)];congr 1
  rw[zw,yO (by omega),c,zB (by omega)];rfl
theorem kr (l:List UInt8)(h:l.length<=65536):l.length<=(ir l).length/\(ir l).length<=l.length+(if l.length=0 then 0 else if l.length<=60 then 1 else if l.length<=256 then 2 else 3):=by
 unfold ir;split
 ·rename_i b;simp[b]
 split
 ·simp
 split<;>simp<;>omega
theorem sO (n d:Nat):2<=(kY n d).length/\(kY n d).length<=3:=by
 unfold kY;split<;>simp
theorem Mc (L:List UInt8)(e:L.length<=65536)(f:Nat):∀p i,p<=i->i<=L.length->32*(pk L f p i).length<=33*(L.length-p)+96:=by
 induction f with
 |zero=>intro p i _ _;simp[pk]
 |succ f ih=>
  intro p i m hi;unfold pk;split
  ·cases hf:Ho L i i with
   |none=>exact ih p (i+1) (by omega) (by omega)
   |some j=>
    obtain⟨l,n⟩:=pT L i i j hf;have d:=(BK L 64 j i).2 hi;have h:=ih (i+mt L j i 64) (i+mt L j i 64) (zg _) d;have k:=sO (mt L j i 64) (i-j);have c:((L.take i).drop p).length=i-p:=by simp;omega
    have b:=kr ((L.take i).drop p) (by omega);rw[c]at b;simp only[zl];split at b
    ·omega
    split at b
    ·omega
    split at b<;>omega
  have c:(L.drop p).length=L.length-p:=by simp
  have b:=kr (L.drop p) (by omega);rw[c]at b;split at b
  ·omega
  split at b
  ·omega
  split at b<;>omega
theorem sP (L:List UInt8)(b:L.length<=65536):(pack L).length<=L.length+L.length/32+8:=by
 have c:=Mc L b (L.length+1) 0 0 (zg _) (yk _);have d:=bA 3 L.length (by omega) (by omega);unfold pack;rw[zl];omega
theorem EA (B:ByteArray)(size:Nat)(pre l rest out:List UInt8)(c:B.data.toList=pre++(ir l++rest))(q:l.length<=65536)(r:out.length+l.length<=size):
 ∃n,n<=(ir l).length/\∀F,fR B size (F+n) pre.length out=fR B size F (pre.length+(ir l).length) (out++l):=by
 by_cases p:l.length=0
 ·have:l= []:=zp p;subst this;exact⟨0,by simp,fun F=>by simp[ir]⟩
 refine⟨1, ?_,fun F=> ?_⟩
 ·have:=kr l q;omega
 have hz:B.size=pre.length+(ir l).length+rest.length:=by rw[<-aa,c];simp[yh]
 have hcut:∀a b,(B.extract (pre.length+a) (pre.length+b)).data.toList=((ir l++rest).take b).drop a:=by
  intro a b;rw[ar,c,List.take_append,List.drop_append,show pre.length+b-pre.length=b from by omega,zH (by rw[zV];omega),yy,zV,show pre.length+a-min (pre.length+b) pre.length=a from by omega]
 unfold ir at c hz hcut⊢;rw[zh p]at c hz hcut⊢;by_cases m:l.length<=60
 ·rw[zi m]at c hz hcut⊢;obtain⟨g,e⟩:=o6 (s:=B) (k:=pre.length) (b:=ub (4*(l.length-1):Nat)) (by rw[c];simp);have h:B[pre.length].toNat=4*(l.length-1):=by rw[e,bo _ (by omega)]
  have d:bh (4*(l.length-1))=1:=by unfold bh;rw[zi (by omega),zh (by omega)]
  have i:∀x,cR (4*(l.length-1)) x=l.length:=by intro x;unfold cR;rw[zi (by omega),zh (by omega)];omega
  simp only[zx]at hz⊢;refine kX g h ?_;unfold bX;rw[i,d,zh (by omega),zh (by omega),zi (by omega),zh (by omega),show pre.length+1+l.length=pre.length+(1+l.length)from by omega,hcut];simp only[ya,Zn 1,zT,yf,zL,zZ (zg l.length),Z4]
 rw[zh m]at c hz hcut⊢;by_cases o:l.length<=256
 ·rw[zi o]at c hz hcut⊢;obtain⟨g,e⟩:=o6 (s:=B) (k:=pre.length) (b:=240) (by rw[c];simp);have h:B[pre.length].toNat=240:=by rw[e];rfl
  have d:bh 240=2:=by decide
  simp only[zx]at hz⊢;have j:iQ B pre.length 240=l.length-1:=by
   unfold iQ;rw[d,hcut];simp only[ya,zT,yf,zL,yC];simp only[dh,bo (l.length-1) (by omega)];omega
  have i:cR 240 (l.length-1)=l.length:=by unfold cR;rw[zi (by omega),zi (by omega)];omega
  refine kX g h ?_;unfold bX;rw[j,i,d,zh (by omega),zh (by omega),zi (by omega),zh (by omega),show pre.length+2+l.length=pre.length+(l.length+2)from by omega,hcut];simp only[ya,zT,yf,zL,zZ (zg l.length),Z4]
 rw[zh o]at c hz hcut⊢;obtain⟨g,e⟩:=o6 (s:=B) (k:=pre.length) (b:=244) (by rw[c];simp);have h:B[pre.length].toNat=244:=by rw[e];rfl
 have d:bh 244=3:=by decide
 simp only[zx]at hz⊢;have j:iQ B pre.length 244=l.length-1:=by
  unfold iQ;rw[d,hcut];simp only[ya,zT,yf,zL,yC];simp only[dh,bo ((l.length-1)%256) (by omega),bo ((l.length-1)/256) (by omega)];omega
 have i:cR 244 (l.length-1)=l.length:=by unfold cR;rw[zi (by omega),zi (by omega)];omega
 refine kX g h ?_;unfold bX;rw[j,i,d,zh (by omega),zh (by omega),zi (by omega),zh (by omega),show pre.length+3+l.length=pre.length+(l.length+3)from by omega,hcut];simp only[ya,zT,yf,zL,zZ (zg l.length),Z4]
theorem O4 (B:ByteArray)(size n d:Nat)(pre rest out:List UInt8)(c:B.data.toList=pre++(kY n d++rest))(p:4<=n)(u:n<=64)(hd:1<=d)(r:d<=out.length)(w:d<65536)(q:out.length+n<=size)(F:Nat):
 fR B size (F+1) pre.length out=fR B size F (pre.length+(kY n d).length) (tY out d n):=by
 have hz:B.size=pre.length+(kY n d).length+rest.length:=by rw[<-aa,c];simp[yh]
 have hcut:∀a b,(B.extract (pre.length+a) (pre.length+b)).data.toList=((kY n d++rest).take b).drop a:=by
  intro a b;rw[ar,c,List.take_append,List.drop_append,show pre.length+b-pre.length=b from by omega,zH (by rw[zV];omega),yy,zV,show pre.length+a-min (pre.length+b) pre.length=a from by omega]
 unfold kY at c hz hcut⊢;by_cases o:n<=11/\d<2048
 ·rw[zi o]at c hz hcut⊢;obtain⟨g,e⟩:=o6 (s:=B) (k:=pre.length) (b:=ub (1+4*(n-4)+32*(d/256):Nat)) (by rw[c];simp);have j:B[pre.length].toNat=1+4*(n-4)+32*(d/256):=by rw[e,bo _ (by omega)]
  have h:bh (1+4*(n-4)+32*(d/256))=2:=by unfold bh;rw[zh (by omega),zi (by omega)]
  simp only[zx,zJ]at hz⊢;have i:iQ B pre.length (1+4*(n-4)+32*(d/256))=d%256:=by
   unfold iQ;rw[h,hcut];simp only[ya,zT,yf,zL,yC];simp only[dh,bo (d%256) (by omega)];omega
  have m:∀x,cR (1+4*(n-4)+32*(d/256)) x=n:=by intro x;unfold cR;rw[zh (by omega),zi (by omega)];omega
  have l:kh (1+4*(n-4)+32*(d/256)) (d%256)=d:=by unfold kh;rw[zi (by omega)];omega
  refine kX g j ?_;unfold bX;rw[i,l,m,h,zh (by omega),zh (by omega),zh (by omega)]
 rw[zh o]at c hz hcut⊢;obtain⟨g,e⟩:=o6 (s:=B) (k:=pre.length) (b:=ub (2+4*(n-1):Nat)) (by rw[c];simp);have j:B[pre.length].toNat=2+4*(n-1):=by rw[e,bo _ (by omega)]
 have h:bh (2+4*(n-1))=3:=by unfold bh;rw[zh (by omega),zh (by omega),zi (by omega)]
 simp only[zx,zJ]at hz⊢;have i:iQ B pre.length (2+4*(n-1))=d:=by
  unfold iQ;rw[h,hcut];simp only[ya,zT,yf,zL,yC];simp only[dh,bo (d%256) (by omega),bo (d/256) (by omega)];omega
 have m:∀x,cR (2+4*(n-1)) x=n:=by intro x;unfold cR;rw[zh (by omega),zh (by omega)];omega
 have l:kh (2+4*(n-1)) d=d:=by unfold kh;rw[zh (by omega)]
 refine kX g j ?_;unfold bX;rw[i,l,m,h,zh (by omega),zh (by omega),zh (by omega)]
theorem Tn (B:ByteArray)(L:List UInt8)(D:L.length<=65536)(f:Nat):∀(p i:Nat) (pre:List UInt8),p<=i->i<=L.length->L.length-i<f->B.data.toList=pre++pk L f p i->
 ∃n,n<=(pk L f p i).length/\∀F,fR B L.length (F+n) pre.length (L.take p)=fR B L.length F B.size L:=by
 induction f with
 |zero=>intro p i pre _ _ h;omega
 |succ f ih=>
  intro p i pre x hi C b;unfold pk at b⊢;by_cases h:i<L.length
  ·rw[zi h]at b⊢;cases LR:Ho L i i with
   |none=>
    rw[LR]at b;exact ih p (i+1) pre (by omega) (by omega) (by omega) b
   |some j=>
    rw[LR]at b;simp only at b⊢;obtain⟨r,u⟩:=pT L i i j LR;have e:=BK L 64 j i;have y:=e.2 hi;have A:((L.take i).drop p).length=i-p:=by simp;omega
    have E:(L.take p).length=p:=by rw[zV];omega
    have q:(L.take i).length=i:=by rw[zV];omega
    have s:L.take p++(L.take i).drop p=L.take i:=by
     have:=zI p (L.take i);rwa [xu,yF x]at this
    obtain⟨n1,l,c⟩:=EA B L.length pre ((L.take i).drop p) _ (L.take p) b (by omega) (by omega);rw[s]at c;have o:B.data.toList=(pre++ir ((L.take i).drop p))++(kY (mt L j i 64) (i-j)++pk L f (i+mt L j i 64) (i+mt L j i 64)):=by rw[b,zE]
    have k:=O4 B L.length (mt L j i 64) (i-j) _ _ (L.take i) o u e.1 (by omega) (by omega) (by omega) (by omega);rw[WC L j i r hi _ (zg _),zl]at k;have w:B.data.toList=((pre++ir ((L.take i).drop p))++kY (mt L j i 64) (i-j))++pk L f (i+mt L j i 64) (i+mt L j i 64):=by rw[o,zE _ (kY _ _) _]
    obtain⟨d,z,m⟩:=ih _ _ _ (zg _) y (by omega) w;rw[zl,zl]at m;refine⟨d+1+n1, ?_,fun F=> ?_⟩
    ·have:=sO (mt L j i 64) (i-j);simp only[zl];omega
    rw[show F+(d+1+n1)=(F+d+1)+n1 from by omega,c,k,m]
  rw[zh h]at b⊢;have q:(L.take p).length=p:=by rw[zV];omega
  obtain⟨n1,l,c⟩:=EA B L.length pre (L.drop p) [] (L.take p) (by simpa using b) (by simp;omega) (by simp;omega);refine⟨n1,l,fun F=> ?_⟩;rw[c,zI];congr 1
  rw[<-aa,b,zl]
theorem BL (s:ByteArray)(L:List UInt8)(c:L.length<=65536)(b:s.data.toList=pack L):aB s=(L.length,(aR L.length).length,0):=by
 unfold pack at b;have h:=kq L.length s _ b (by omega);unfold aB;rw[h,zi rfl,zh (by simp;omega)]
theorem EB (s:ByteArray)(L:List UInt8)(c:L.length<=65536)(b:s.data.toList=pack L)(most:Int)(j:L.length<=most):aY s most=(0,L):=by
 have i:=BL s L c b;unfold aY;rw[i];simp only[ne_eq,yY,xL];rw[zh (by omega)];unfold pack at b;generalize h:s.extract (aR L.length).length s.size=B;have d:B.data.toList=pk L (L.length+1) 0 0:=by
  rw[<-h,ar,cT,b,yK (zg _),Z5,yy]
 obtain⟨n,k,e⟩:=Tn B L c (L.length+1) 0 0 [] (zg _) (yk _) (by omega) (by simpa using d);unfold jf;have hz:B.size=(pk L (L.length+1) 0 0).length:=by rw[<-aa,d]
 rw[show B.size+1=(B.size-n+1)+n from by omega];have:=e (B.size-n+1);simp only[zJ,yC]at this;rw[this];unfold fR;rw[dif_neg (by omega),zh (by omega)]
