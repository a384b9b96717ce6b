/- Words for memory: a block that is known whole ('Blk'), a world that has turned at some blocks alone ('Only'), a slice that reads as a list ('Reads'). Own text; no program in sight. -/
import Derived.WalkKit
import Derived.Deep.AppendLies
import Derived.Deep.Draws
import Derived.Lib.Hide
import Derived.Lib.AtoiErrMem
import Derived.Test.YtpjgigllldipiaaGreatDoorKA2
import Derived.Deep.Upon
import Derived.Deep.RegionLaw
import Derived.Maps.Range
import Derived.Deep.OwnRows
set_option linter.all false
namespace Go.Proofs.YtpjgigllldipiaaGreatDoor
open Go.RowKit
def za:=@Lib.hid
def zq:=@Below.refl
def zE:=@World.cell?_alloc_lt
def zK:=@World.cell?_of_block
def zM:=@List.getElem_mem
def zP:=@Nat.le_trans
def zQ:=@Nat.zero_add
def zY:=@Below.heap_setCell
def yj:=@Array.getElem?_eq_some_iff
def yT:=@List.getElem?_take_of_lt
def yX:=@heap_alloc_new
def y7:=@lt_of_block
def xP:=@List.mem_map
def xZ:=@Array.getElem?_eq_none
def Zb:=@List.getElem?_map
def Zh:=@Nat.mul_one
def Zo:=@List.getElem?_eq_some_iff
def Zu:=@List.length_set
def ZG:=@Array.getElem?_modify
def ZH:=@Nat.zero_lt_succ
def ZL:=@Below.heap_alloc
def ZT:=@World.news_of_block
def ZZ:=@grownCap_le_maxLen
def Z9:=@Array.toList_setIfInBounds
def Ya:=@World.heap_setCells_other
def Yb:=@Array.getElem?_eq_getElem
def Yf:=@List.size_toArray
def Yj:=@run_convert_bytes_string
def YA:=@World.output_setCells
def YB:=@Go.run_append_nothing
def af (w:World)(g:Nat)(t:TypeId)(cs:Array Value):Prop:=w.heap[g]?=some (.cells cs t (0,0))
theorem af.lt {w:World}{g:Nat}{t:TypeId}{b:Array Value}(h:af w g t b):g<w.heap.size:=y7 h
theorem af.cell {w:World}{g:Nat}{t:TypeId}{b:Array Value}(h:af w g t b)(i:Nat):w.cell? ⟨g,i,none⟩=b[i]?:=by
 unfold af at h;simp[World.cell?,h]
theorem af.frozen {w:World}{g:Nat}{t:TypeId}{b:Array Value}(h:af w g t b)(i:Nat):w.frozen? ⟨g,i,none⟩=false:=by
 unfold af at h;simp[World.frozen?,h]
theorem af.new (w:World)(t:TypeId)(b:Array Value):af (w.alloc (.cells b t)) w.heap.size t b:=yX w _
theorem af.drew {w:World}{g:Nat}{t:TypeId}{b:Array Value}(h:af w g t b):af w.drew g t b:=h
theorem af.drewN {w:World}{g:Nat}{t:TypeId}{b:Array Value}(h:af w g t b)(n:Nat):af (w.drewN n) g t b:=h
theorem af.alloc {w:World}{g:Nat}{t:TypeId}{b:Array Value}(h:af w g t b)(o:Obj):af (w.alloc o) g t b:=(ZL w o g h.lt).trans h
theorem af.set {w:World}{g:Nat}{t:TypeId}{b:Array Value}(h:af w g t b)(i:Nat)(u:Value):af (w.setCell ⟨g,i,none⟩ u) g t (b.setIfInBounds i u):=by
 unfold af at h⊢;simp[World.setCell,ZG,h]
theorem af.dz {w:World}{g:Nat}{t:TypeId}{b:Array Value}(h:af w g t b){p:Addr}(c:g≠p.block)(u:Value):af (w.setCell p u) g t b:=(zY w p u g c).trans h
theorem af.beside {w:World}{g:Nat}{t:TypeId}{b:Array Value}{p:Addr}(c:g≠p.block)(h:af w g t b)(u:Value):af (w.setCell p u) g t b:=h.dz c u
theorem af.store {w:World}{g:Nat}{t:TypeId}{b c:Array Value}{i:Nat}{u:Value}(h:af w g t b)(e:b.setIfInBounds i u=c):af (w.setCell ⟨g,i,none⟩ u) g t c:=e▸h.set i u
structure ae (L:List Nat)(w w':World):Prop where
 os:w'.os=w.os
 tape:w'.tape=w.tape
 output:w'.output=w.output
 size:w.heap.size<=w'.heap.size
 block:∀k,k<w.heap.size->k∉L->w'.heap[k]?=w.heap[k]?
theorem ae.refl (L:List Nat)(w:World):ae L w w:=⟨rfl,rfl,rfl,zi _,fun _ _ _=>rfl⟩
theorem ae.trans' {L M:List Nat}{a b c:World}(h:ae L a b)(k:ae M b c)(e:∀i,i∈M->i∈L\/a.heap.size<=i):ae L a c:=
 ⟨k.os.trans h.os,k.tape.trans h.tape,k.output.trans h.output,zP h.size k.size,fun i hi d=>
  (k.block i (yf hi h.size) (fun j=>by rcases e i j with h1|h1;exact d h1;omega)).trans (h.block i hi d)⟩
theorem ae.trans {L:List Nat}{a b c:World}(h:ae L a b)(k:ae L b c):ae L a c:=h.trans' k fun _ hi=> .inl hi
theorem ae.mono {L M:List Nat}{w w':World}(h:ae L w w')(b:∀i,i∈L->i∈M):ae M w w':=⟨h.os,h.tape,h.output,h.size,fun k c d=>h.block k c (fun e=>d (b k e))⟩
theorem ae.drew {L:List Nat}{a w:World}(h:ae L a w):ae L a w.drew:=⟨h.os,h.tape,h.output,h.size,h.block⟩
theorem ae.drewN {L:List Nat}{a w:World}(h:ae L a w)(n:Nat):ae L a (w.drewN n):=⟨h.os,h.tape,h.output,h.size,h.block⟩
theorem ae.alloc {L:List Nat}{a w:World}(h:ae L a w)(o:Obj):ae L a (w.alloc o):=
 ⟨h.os,h.tape,h.output,zP h.size (by simp),fun k b c=>(ZL w o k (yf b h.size)).trans (h.block k b c)⟩
theorem ae.setCell {L:List Nat}{a w:World}(h:ae L a w){p:Addr}(b:p.block∈L\/a.heap.size<=p.block)(u:Value):ae L a (w.setCell p u):=
 ⟨h.os,h.tape,h.output,by simpa[World.setCell]using h.size,fun k d c=>(zY w p u k (by
  rintro rfl;rcases b with b|b
  ·exact c b
  omega)).trans (h.block k d c)⟩
theorem ae.put {L:List Nat}{a w:World}{p:Addr}(b:p.block∈L\/a.heap.size<=p.block)(h:ae L a w)(u:Value):ae L a (w.setCell p u):=h.setCell b u
theorem ae.cX {w w':World}{row:Option Nat}(h:w.grownBy w' row):ae row.toList w w':=
 ⟨h.os,h.tape,h.output,h.size,fun k b c=>h.block k b (fun e=>c (by simp[<-e]))⟩
theorem ae.grown {L:List Nat}{a w w':World}{row:Option Nat}(h:ae L a w)(b:w.grownBy w' row)(c:∀k,row=some k->k∈L\/a.heap.size<=k):ae L a w':=
 h.trans' (ae.cX b) fun i hi=>c i (by simpa using hi)
theorem ae.ah {B:Nat}{w w':World}(h:Below B w w')(c:w.heap.size<=B):ae [] w w':=⟨h.os,h.tape,h.output,h.size,fun k b _=>h.block k (by omega)⟩
theorem ae.below {L:List Nat}{w w':World}(h:ae L w w'){B:Nat}(d:B<=w.heap.size)(b:∀i,i∈L->B<=i):Below B w w':=
 ⟨h.os,h.tape,h.output,h.size,fun k c=>h.block k (by omega) (fun hi=>by have:=b k hi;omega)⟩
theorem ae.cell {L:List Nat}{w w':World}(h:ae L w w'){p:Addr}(c:p.block<w.heap.size)(b:p.block∉L):w'.cell? p=w.cell? p:=zK (h.block _ c b)
theorem ae.frozen {L:List Nat}{w w':World}(h:ae L w w'){p:Addr}(c:p.block<w.heap.size)(b:p.block∉L):w'.frozen? p=w.frozen? p:=World.frozen?_of_block (h.block _ c b)
theorem af.only {L:List Nat}{w w':World}{g:Nat}{t:TypeId}{b:Array Value}(h:af w g t b)(d:ae L w w')(c:g∉L):af w' g t b:=(d.block g h.lt c).trans h
theorem ae.own {L:List Nat}{w w':World}(h:ae L w w'){base:Nat}{e:TypeId}{size:Nat}{v:Value}{n:Nat}{xs:List Value}(i:w.ownsRow base e size v n xs)
 (c:∀g,v.ownBlock=some g->g∉L):w'.ownsRow base e size v n xs:=by
 obtain⟨d,b⟩:=i;refine⟨d, ?_⟩;rcases b with b|⟨g,cap,cur,hv,hg,hh,r⟩
 ·exact Or.inl b
 subst hv;exact Or.inr ⟨g,cap,cur,rfl,hg,(h.block g (y7 hh) (c g rfl)).trans hh,r⟩
def cb (l:List UInt8):List Value:=l.map fun b=> .int .u8 b.toNat
theorem bq (l:List UInt8):(cb l).length=l.length:=List.length_map ..
theorem gb (l m:List UInt8):cb (l++m)=cb l++cb m:=List.map_append ..
theorem El (l:List UInt8)(j:Nat):(cb l)[j]?=(l[j]?).map fun b=> .int .u8 b.toNat:=Zb ..
theorem uw (l:List UInt8):∀u∈cb l,u.oneCell'=true:=by
 intro u hu;simp only[cb,xP]at hu;obtain⟨b,_,rfl⟩:=hu;rfl
theorem SE (l:List UInt8)(k:Nat):cb (l.drop k)=(cb l).drop k:=by simp[cb]
theorem SF (l:List UInt8)(k:Nat):cb (l.take k)=(cb l).take k:=by simp[cb]
theorem dh {w:World}{base:Nat}{e t:TypeId}{size n cap g h:Nat}{xs:List Value}{d:Array Value}(k:w.ownsRow base e size (.slice (some ⟨h,0,none⟩) n cap) n xs)(c:af w g t d)(l:e≠t):h≠g:=by
 rintro rfl;rcases k.2 with⟨j,_⟩|⟨o,m,p,b,_,i,_⟩
 ·cases j
 injection b with b;injection b with b;injection b with b;subst b;unfold af at c;rw[i]at c;injection c with c;injection c with _ ht;exact l ht
theorem qU {w:World}{base:Nat}{e:TypeId}{size n cap h:Nat}{xs:List Value}(l:w.ownsRow base e size (.slice (some ⟨h,0,none⟩) n cap) n xs):n<=cap/\cap<=9223372036854775807/\base<=h/\h<w.heap.size:=by
 rcases l.2 with⟨j,_⟩|⟨o,m,p,b,i,k,c,d,_⟩
 ·cases j
 injection b with b kh D4;injection b with b;injection b with b;subst b;subst D4;exact⟨c,by simpa[maxLen]using d,i,y7 k⟩
theorem pD {w:World}{base:Nat}{e:TypeId}{size n:Nat}{v:Value}{xs:List Value}(j:w.ownsRow base e size v n xs)(b:v≠ .slice none 0 0):∃h cap,v= .slice (some ⟨h,0,none⟩) n cap:=by
 rcases j.2 with⟨i,_⟩|⟨d,c,k,b,_⟩
 ·exact absurd i b
 exact⟨d,c,b⟩
theorem G' (l:List UInt8)(s:ByteArray):(l.map fun b=>(b.toNat:Int)).foldl (fun r n=>r.push (UInt8.ofNat n.toNat)) s=⟨(s.data.toList++l).toArray⟩:=by
 induction l generalizing s with
 |nil=>cases s;simp
 |cons b t ih=>
  rw[List.map_cons,List.foldl_cons,ih];congr 1
  simp[ByteArray.push]
theorem Cv {P:Program}(w:World)(src dst e:TypeId)(d:P.underlying src=some (.slice e))(i:P.underlying e=some (.int .u8))(hd:P.underlying dst=some .string)(a:Addr)(cap:Nat)(l:List UInt8)
 (h:∀j u,(cb l)[j]?=some u->w.cell? (a.add j)=some u):(convert src dst (.slice (some a) l.length cap)).run P w= .ok (.string ⟨l.toArray⟩) w:=by
 rw[Yj w src dst e (some a) l.length cap d i hd];have k:cb l=(l.map fun b=>(b.toNat:Int)).map (Value.int .u8):=by simp[cb]
 have c:=run_loadCells_list (P:=P) (w:=w) a (cb l) h;rw[bq,k]at c;rw[run_bytesToString w a l.length cap _ c,G'];simp
theorem r9 {P:Program}{w:World}{src dst e:TypeId}(b:P.underlying src=some (.slice e))(c:P.underlying e=some (.int .u8))(hd:P.underlying dst=some .string){base h cap:Nat}{l:List UInt8}
 (d:w.ownsRow base e 1 (.slice (some ⟨h,0,none⟩) l.length cap) l.length (cb l)):(convert src dst (.slice (some ⟨h,0,none⟩) l.length cap)).run P w= .ok (.string ⟨l.toArray⟩) w:=
 Cv w src dst e b c hd _ cap l (d.cells rfl)
theorem _root_.Go.RowKit.Below.afz {B:Nat}{a w:World}(b:B<=w.heap.size)(h:Below B a w)(o:Obj):Below B a (w.alloc o):=h.alloc b o
theorem _root_.Go.RowKit.Below.bE {B:Nat}{a w:World}(h:Below B a w)(n:Nat):Below B a (w.drewN n):=⟨h.os,h.tape,h.output,h.size,h.block⟩
theorem _root_.Go.World.ownsRow.bE {w:World}{base:Nat}{e:TypeId}{size:Nat}{v:Value}{n:Nat}{xs:List Value}(h:w.ownsRow base e size v n xs)(k:Nat):(w.drewN k).ownsRow base e size v n xs:=h
theorem sj {w:World}{g i:Nat}{v:Value}(b:g<w.heap.size)(h:w.cell? ⟨g,i,none⟩=some v)(e c d:Obj):(((w.alloc e).alloc c).alloc d).cell? ⟨g,i,none⟩=some v:=by
 rw[zE _ _ _ (by simp;omega),zE _ _ _ (by simp;omega),zE _ _ _ (by simpa using b)];exact h
theorem Cw {w:World}{g i:Nat}(e:g<w.heap.size)(h:w.frozen? ⟨g,i,none⟩=false)(d b c:Obj):(((w.alloc d).alloc b).alloc c).frozen? ⟨g,i,none⟩=false:=by
 rw[(((((ae.refl [] w).alloc d).alloc b).alloc c)).frozen e (by simp)];exact h
theorem nC {a b:ByteArray}(h:b=a):Ending.returned (.string a)= .returned (.string b):=by rw[h]
def strOf :Value->Nat
 | .string y=>y.size
 |_=>0
@[simp] theorem SG (y:ByteArray):strOf (.string y)=y.size:=rfl
theorem aV {a b:Bool}(h:b=a):Ending.returned (.bool a)= .returned (.bool b):=by rw[h]
theorem lq {k:IntKind}{a b:Int}(h:a=b):Ending.returned (.int k a)= .returned (.int k b):=by rw[h]
class fT (B:Nat) (w w':World):Prop where
 out:Below B w w'
 le:B<=w'.heap.size
instance fT.refl (w:World):fT w.heap.size w w:=⟨zq _ _,zi _⟩
instance fT.alloc {B:Nat}{w w':World} [h:fT B w w'](o:Obj):fT B w (w'.alloc o):=⟨h.out.alloc h.le o,zP h.le (by simp)⟩
instance fT.drew {B:Nat}{w w':World} [h:fT B w w']:fT B w w'.drew:=⟨h.out.drew,h.le⟩
instance fT.drewN {B:Nat}{w w':World} [h:fT B w w'](n:Nat):fT B w (w'.drewN n):=⟨h.out.bE n,h.le⟩
theorem bM {B:Nat}{w w':World} [h:fT B w w']:Below B w w':=h.out
theorem blm {B:Nat}{w w':World}(b:B<=w.heap.size) [h:fT w.heap.size w w']:Below B w w':=h.out.mono b
theorem _root_.Go.RowKit.Below.up {w b w':World}(h:Below w.heap.size w b) [g:fT b.heap.size b w']:Below w.heap.size w w':=h.trans (g.out.mono h.size)
theorem _root_.Go.RowKit.Below.up' {B:Nat}{w b w':World}(h:Below B w b)(c:B<=b.heap.size) [g:fT b.heap.size b w']:Below B w w':=h.trans (g.out.mono c)
class LM (g:Nat) (L:List Nat):Prop where
 out:g∈L
instance LM.here (g:Nat)(L:List Nat):LM g (g::L):=⟨by simp⟩
instance LM.there {g:Nat}{L:List Nat} [h:LM g L](k:Nat):LM g (k::L):=⟨by simp[h.out]⟩
class dQ (L:List Nat) (a w:World):Prop where
 out:ae L a w
instance dQ.refl (L:List Nat)(w:World):dQ L w w:=⟨ae.refl L w⟩
instance dQ.alloc {L:List Nat}{a w:World} [h:dQ L a w](o:Obj):dQ L a (w.alloc o):=⟨h.out.alloc o⟩
instance dQ.drew {L:List Nat}{a w:World} [h:dQ L a w]:dQ L a w.drew:=⟨h.out.drew⟩
instance dQ.drewN {L:List Nat}{a w:World} [h:dQ L a w](n:Nat):dQ L a (w.drewN n):=⟨h.out.drewN n⟩
instance dQ.put {L:List Nat}{a w:World}{g:Nat} [h:dQ L a w] [m:LM g L](i:Nat)(n:Option Nat)(u:Value):dQ L a (w.setCell ⟨g,i,n⟩ u):=⟨h.out.setCell (.inl m.out) u⟩
instance dQ.alD {L:List Nat}{a w:World} [h:dQ L a w](i:Nat)(n:Option Nat)(u:Value):dQ L a (w.setCell ⟨a.heap.size,i,n⟩ u):=⟨h.out.setCell (.inr (zi _)) u⟩
instance dQ.alE {L:List Nat}{a w:World} [h:dQ L a w](i:Nat)(n:Option Nat)(u:Value):dQ L a (w.setCell ⟨a.heap.size+1,i,n⟩ u):=⟨h.out.setCell (.inr (by simp)) u⟩
instance dQ.alF {L:List Nat}{a w:World} [h:dQ L a w](i:Nat)(n:Option Nat)(u:Value):dQ L a (w.setCell ⟨a.heap.size+1+1,i,n⟩ u):=⟨h.out.setCell (.inr (by simp;omega)) u⟩
theorem Cx {L:List Nat}{a w:World} [h:dQ L a w]:ae L a w:=h.out
theorem ae.up {L:List Nat}{a w w':World}(h:ae L a w) [g:dQ L w w']:ae L a w':=h.trans g.out
def ub (n:Int):UInt8:=UInt8.ofNat n.toNat
theorem bh (n:Nat)(h:n<256):(ub n).toNat=n:=by
 simp[ub];omega
theorem Em {P:Program}{src dst e:TypeId}(d:P.underlying src=some (.slice e))(i:P.underlying e=some (.int .u8))(hd:P.underlying dst=some .string)(w:World)(xs:List Int)(cap:Nat):
 (convert src dst (.slice (some ⟨w.heap.size,0,none⟩) xs.length cap)).run P (w.alloc (.cells (xs.map (Value.int .u8)).toArray e))= .ok (.string ⟨(xs.map ub).toArray⟩) (w.alloc (.cells (xs.map (Value.int .u8)).toArray e)):=by
 rw[Yj _ src dst e _ xs.length cap d i hd];have c:=run_loadCells_list (P:=P) (w:=w.alloc (.cells (xs.map (Value.int .u8)).toArray e)) ⟨w.heap.size,0,none⟩ (xs.map (Value.int .u8)) (by
  intro j v k;have:=ZT (yX w (.cells (xs.map (Value.int .u8)).toArray e)) j v (by simpa using k);exact this)
 rw[List.length_map]at c;rw[run_bytesToString _ _ _ cap xs c];have h:∀(l:List Int) (s:ByteArray),l.foldl (fun r n=>r.push (UInt8.ofNat n.toNat)) s=⟨(s.data.toList++l.map ub).toArray⟩:=by
  intro l;induction l with
  |nil=>intro s;cases s;simp
  |cons b t ih=>
   intro s;rw[List.foldl_cons,ih];congr 1
   simp[ByteArray.push,ub]
 rw[h];simp
section
variable {P:Program} {src dst e:TypeId} (hs:P.underlying src=some (.slice e)) (he:P.underlying e=some (.int .u8)) (hd:P.underlying dst=some .string)
include hs he hd
theorem OA (w:World)(a:Int):(convert src dst (.slice (some ⟨w.heap.size,0,none⟩) 1 1)).run P (w.alloc (.cells #[.int .u8 a] e))= .ok (.string ⟨#[ub a]⟩) (w.alloc (.cells #[.int .u8 a] e)):=Em hs he hd w [a] 1
end
structure Kept (E:TypeId)(base:Nat)(w w':World):Prop where
 below:Below base w w'
 other:∀(k:Nat) (o:Obj),w.heap[k]?=some o->(∀cs fr,o≠Obj.cells cs E fr)->w'.heap[k]?=some o
theorem Kept.refl (E:TypeId)(base:Nat)(w:World):Kept E base w w:=⟨zq _ _,fun _ _ h _=>h⟩
theorem Kept.trans {E:TypeId}{base:Nat}{a b c:World}(h:Kept E base a b)(k:Kept E base b c):Kept E base a c:=
 ⟨h.below.trans k.below,fun i o hi d=>k.other i o (h.other i o hi d) d⟩
theorem Kept.ah {E:TypeId}{base B:Nat}{a b:World}(h:Below B a b)(d:a.heap.size<=B)(c:base<=a.heap.size):Kept E base a b:=
 ⟨h.mono (by omega),fun i o hi _=>(h.block i (by
  have:=(yj.1 hi).1;omega)).trans hi⟩
theorem Kept.alloc {E:TypeId}{base:Nat}{a w:World}(h:Kept E base a w)(b:base<=w.heap.size)(o:Obj):Kept E base a (w.alloc o):=
 h.trans (Kept.ah ((zq w.heap.size w).alloc (zi _) o) (zi _) b)
theorem Kept.drew {E:TypeId}{base:Nat}{a w:World}(h:Kept E base a w):Kept E base a w.drew:=⟨h.below.drew,h.other⟩
theorem Kept.size {E:TypeId}{base:Nat}{a w:World}(h:Kept E base a w):a.heap.size<=w.heap.size:=h.below.size
theorem Kept.mono {E:TypeId}{base b:Nat}{a w:World}(h:Kept E base a w)(c:b<=base):Kept E b a w:=⟨h.below.mono c,h.other⟩
def bJ (w:World)(base:Nat)(E:TypeId)(v:Value)(l:List UInt8):Prop:=
 ∃A cap,v= .slice A l.length cap/\l.length<=cap/\cap<=9223372036854775807/\
  ((A=none/\cap=0)\/∃g cur fr,A=some ⟨g,0,none⟩/\base<=g/\w.heap[g]?=some (.cells cur E fr)/\cur.size=cap/\cur.toList.take l.length=cb l/\(fr.2=0\/cap<=fr.1))
theorem bJ.nil (w:World)(base:Nat)(E:TypeId):bJ w base E (.slice none 0 0) []:=⟨none,0,rfl,by simp,by simp,.inl ⟨rfl,rfl⟩⟩
theorem bJ.form {w:World}{base:Nat}{E:TypeId}{v:Value}{l:List UInt8}(h:bJ w base E v l):∃A cap,v= .slice A l.length cap/\l.length<=cap/\cap<=9223372036854775807:=by
 obtain⟨A,cap,d,c,b,_⟩:=h;exact⟨A,cap,d,c,b⟩
theorem bJ.of_heap {w w':World}{base:Nat}{E:TypeId}{v:Value}{l:List UInt8}(h:bJ w base E v l)(e:∀k,base<=k->k<w.heap.size->w'.heap[k]?=w.heap[k]?):bJ w' base E v l:=by
 obtain⟨A,cap,d,c,i,b⟩:=h;refine⟨A,cap,d,c,i, ?_⟩;rcases b with b|⟨g,cur,fr,hA,hg,hh,r⟩
 ·exact .inl b
 exact .inr ⟨g,cur,fr,hA,hg,(e g hg (yj.1 hh).1).trans hh,r⟩
theorem bJ.below {w w':World}{base:Nat}{E:TypeId}{v:Value}{l:List UInt8}(h:bJ w base E v l)(b:Below w.heap.size w w'):bJ w' base E v l:=h.of_heap fun k _ c=>b.block k c
theorem bJ.alloc {w:World}{base:Nat}{E:TypeId}{v:Value}{l:List UInt8}(h:bJ w base E v l)(o:Obj):bJ (w.alloc o) base E v l:=h.below ((zq _ _).alloc (zi _) o)
theorem bJ.drew {w:World}{base:Nat}{E:TypeId}{v:Value}{l:List UInt8}(h:bJ w base E v l):bJ w.drew base E v l:=h
theorem bJ.mono {w:World}{base c:Nat}{E:TypeId}{v:Value}{l:List UInt8}(h:bJ w base E v l)(j:c<=base):bJ w c E v l:=by
 obtain⟨A,cap,e,d,i,b⟩:=h;refine⟨A,cap,e,d,i, ?_⟩;rcases b with b|⟨g,cur,fr,hA,hg,r⟩
 ·exact .inl b
 exact .inr ⟨g,cur,fr,hA,by omega,r⟩
theorem bJ.only {w w':World}{base:Nat}{E:TypeId}{v:Value}{l:List UInt8}{L:List Nat}(h:bJ w base E v l)(k:ae L w w')(j:∀g,g∈L->g<base\/∃d t c,w.heap[g]?=some (.cells d t c)/\t≠E):bJ w' base E v l:=by
 obtain⟨A,cap,i,e,m,b⟩:=h;refine⟨A,cap,i,e,m, ?_⟩;rcases b with b|⟨g,cur,c,hA,hg,hh,r⟩
 ·exact .inl b
 refine .inr ⟨g,cur,c,hA,hg,(k.block g (yj.1 hh).1 fun n=> ?_).trans hh,r⟩;rcases j g n with h5|⟨d,t,fr',h5,h6⟩
 ·omega
 rw[hh]at h5;injection h5 with h5;injection h5 with _ h7;exact h6 h7.symm
theorem bJ.own {w:World}{base:Nat}{E:TypeId}{v:Value}{l:List UInt8}(h:w.ownsRow base E 1 v l.length (cb l)):bJ w base E v l:=by
 obtain⟨p,b⟩:=h;rcases b with⟨b,o⟩|⟨g,cap,k,j,m,n,c,d,e,i⟩
 ·refine⟨none,0,by rw[b,o],by omega,by simp,.inl ⟨rfl,rfl⟩⟩
 exact⟨some ⟨g,0,none⟩,cap,j,c,by simpa[maxLen]using d,.inr ⟨g,k,(0,0),rfl,m,n,by simpa using e,by simpa using i,.inl rfl⟩⟩
theorem eC {w:World}{g i:Nat}{c:Array Value}{E:TypeId}{b:Nat×Nat}(d:w.heap[g]?=some (.cells c E b))(e:b.2=0\/i<b.1):w.frozen? ⟨g,i,none⟩=false:=by
 obtain⟨h,hi⟩:=b;simp[World.frozen?,d];simp at e;omega
theorem bJ.cells {w:World}{base:Nat}{E:TypeId}{A:Option Addr}{cap:Nat}{l:List UInt8}(h:bJ w base E (.slice A l.length cap) l):∀a,A=some a->∀j u,(cb l)[j]?=some u->w.cell? (a.add j)=some u:=by
 obtain⟨p,r,k,o,z,c⟩:=h;injection k with d _ hc;subst d;subst hc;intro a b j u hu;rcases c with⟨c,_⟩|⟨g,s,y,d,x,m,q,i,B⟩
 ·rw[c]at b;cases b
 rw[d]at b;injection b with b;subst b;have e:(⟨g,0,none⟩:Addr).add j=⟨g,j,none⟩:=by unfold Addr.add;split<;>simp_all
 have n:j<l.length:=by have:=(Zo.1 hu).1;rwa [bq]at this
 rw[e];simp only[World.cell?,m];rw[<-i,yT n]at hu;simpa using hu
theorem bJ.str {P:Program}{w:World}{src dst e:TypeId}(d:P.underlying src=some (.slice e))(i:P.underlying e=some (.int .u8))(hd:P.underlying dst=some .string){base cap:Nat}{E:TypeId}{A:Option Addr}{l:List UInt8}
 (h:bJ w base E (.slice A l.length cap) l):(convert src dst (.slice A l.length cap)).run P w= .ok (.string ⟨l.toArray⟩) w:=by
 cases A with
 |none=>
  obtain⟨n,o,j,m,r,b⟩:=h;injection j with c _ hc;subst c;subst hc;rcases b with⟨_,b⟩|⟨g,p,q,c,_⟩
  ·subst b;have k:l= []:=zt (by omega);subst k;rw[Yj w src dst e none _ 0 d i hd];rfl
  cases c
 |some a=>exact Cv w src dst e d i hd a cap l (h.cells a rfl)
theorem bJ.len {w:World}{base:Nat}{E:TypeId}{A:Option Addr}{n cap:Nat}{l:List UInt8}(h:bJ w base E (.slice A n cap) l):n=l.length/\n<=cap/\cap<=9223372036854775807:=by
 obtain⟨e,i,c,b,d,_⟩:=h;injection c with hA hn hc;subst hc;subst hn;exact⟨rfl,b,d⟩
theorem bJ.Ha {P:Program}{w:World}{src dst e:TypeId}(b:P.underlying src=some (.slice e))(c:P.underlying e=some (.int .u8))(hd:P.underlying dst=some .string){base n cap:Nat}{E:TypeId}{A:Option Addr}{l:List UInt8}
 (h:bJ w base E (.slice A n cap) l):(convert src dst (.slice A n cap)).run P w= .ok (.string ⟨l.toArray⟩) w:=by
 obtain⟨d,_⟩:=h.len;subst d;exact h.str b c hd
theorem bJ.conv (w:World)(base:Nat)(E:TypeId)(s:ByteArray)(d:base<=w.heap.size)(b:s.size<=9223372036854775807):bJ (Lib.bytesWorld w E s) base E (.slice (some ⟨w.heap.size,0,none⟩) s.size (grownCap w s.size 0 E)) s.data.toList:=by
 have e:=grownCap_ge w s.size 0 E;have c:=ZZ w s.size 0 E (by simpa[maxLen]using b);have hz:(Lib.bytesCells w E s).size=grownCap w s.size 0 E:=by simp[Lib.bytesCells];omega
 refine⟨_,_,by rw[aa],by rw[aa];exact e,by simpa[maxLen]using c,.inr ⟨w.heap.size,Lib.bytesCells w E s,_,rfl,d,Lib.bytesWorld_at_new w E s,hz, ?_,.inr (by rw[hz];exact zi _)⟩⟩;simp[Lib.bytesCells,cb]
theorem iX {w:World}{g o:Nat}{b:Array Value}{E:TypeId}{c:Nat×Nat}(v:Value)(h:w.heap[g]?=some (.cells b E c)):(w.setCell ⟨g,o,none⟩ v).heap[g]?=some (.cells (b.setIfInBounds o v) E c):=by
 simp[World.setCell,ZG,h]
theorem ie {g:Nat}{E:TypeId}{i:Nat×Nat}:∀(c:List Value) (o:Nat) (w:World) (b:Array Value),w.heap[g]?=some (.cells b E i)->o+c.length<=b.size->
 ∃d,(w.setCells g o c).heap[g]?=some (.cells d E i)/\d.size=b.size/\d.toList.take (o+c.length)=b.toList.take o++c
 | [],o,w,b,h,_=>⟨b,h,rfl,by simp⟩
 |v::c,o,w,b,h,hl=>by
  simp only[zB]at hl;obtain⟨d,k,j,l⟩:=ie c (o+1) (w.setCell ⟨g,o,none⟩ v) (b.setIfInBounds o v) (iX v h) (by simp;omega);refine⟨d,k,by simpa using j, ?_⟩;rw[zB,show o+(c.length+1)=o+1+c.length from by omega,l];have e:(b.setIfInBounds o v).toList.take (o+1)=b.toList.take o++ [v]:=by
   rw[Z9,yA (by simp;omega),List.getElem_set_self,List.take_set_of_le (zi _)]
  rw[e,zI];rfl
theorem ig (w:World)(g o:Nat)(b:List Value):(w.setCells g o b).heap.size=w.heap.size:=by
 induction b generalizing w o with
 |nil=>rfl
 |cons v b ih=>rw[World.setCells,ih];simp[World.setCell]
theorem kq (w:World)(g o:Nat)(b:List Value):(w.setCells g o b).tape=w.tape:=by
 induction b generalizing w o with
 |nil=>rfl
 |cons v b ih=>rw[World.setCells,ih];rfl
theorem nZ {w:World}{base g o:Nat}{E:TypeId}{e:Array Value}{i:Nat×Nat}(h:w.heap[g]?=some (.cells e E i))(m:base<=g)(c:List Value):Kept E base w (w.setCells g o c):=by
 have d:∀k,k≠g->(w.setCells g o c).heap[k]?=w.heap[k]?:=by
  intro k b;by_cases l:k<w.heap.size
  ·exact Ya w g o c l b
  rw[xZ (by rw[ig];omega),xZ (by omega)]
 refine⟨⟨World.os_setCells w g o c,kq w g o c,YA w g o c,by rw[ig];exact zi _,fun k b=>d k (by omega)⟩,fun k n b j=> ?_⟩;rw[d k (by rintro rfl;rw[h]at b;injection b with b;exact j _ _ b.symm)];exact b
theorem bJ.at_ {w:World}{base:Nat}{E:TypeId}{g n cap k:Nat}{l:List UInt8}(h:bJ w base E (.slice (some ⟨g,0,none⟩) n cap) l)(e:k<l.length):w.cell? ⟨g,k,none⟩=some (.int .u8 (l.getD k 0).toNat)/\w.frozen? ⟨g,k,none⟩=false/\base<=g/\g<w.heap.size:=by
 obtain⟨r,u,m,q,A,c⟩:=h;injection m with b hn hc;subst b;subst hc;subst hn;rcases c with⟨c,_⟩|⟨x,y,z,b,o,d,s,j,p⟩
 ·cases c
 injection b with b;injection b with b;subst b;refine⟨?_,eC d (by rcases p with h|h;exact .inl h;exact .inr (by omega)),o,(yj.1 d).1⟩;have i:(cb l)[k]?=some (.int .u8 (l.getD k 0).toNat):=by rw[El,zD e,zA,zD e];rfl
 rw[<-j,yT e]at i;simp only[World.cell?,d];simpa using i
theorem bJ.set {w:World}{base:Nat}{E:TypeId}{g n cap k:Nat}{l:List UInt8}(h:bJ w base E (.slice (some ⟨g,0,none⟩) n cap) l)(A:k<l.length)(b:UInt8):bJ (w.setCell ⟨g,k,none⟩ (.int .u8 b.toNat)) base E (.slice (some ⟨g,0,none⟩) n cap) (l.set k b):=by
 obtain⟨u,x,m,e,r,d⟩:=h;injection m with c hn hc;subst c;subst hc;subst hn;rcases d with⟨d,_⟩|⟨y,z,q,c,p,o,i,j,s⟩
 ·cases d
 injection c with c;injection c with c;subst c;refine⟨_,cap,by rw[Zu],by rw[Zu];exact e,r,.inr ⟨g,_,q,rfl,p,iX _ o,by simpa using i, ?_,s⟩⟩;rw[Zu,Z9,List.take_set,j];simp[cb,List.map_set]
theorem Kept.store {E:TypeId}{base g k:Nat}{a w:World}{b:Array Value}{e:Nat×Nat}(h:Kept E base a w)(d:w.heap[g]?=some (.cells b E e))(c:base<=g)(v:Value):Kept E base a (w.setCell ⟨g,k,none⟩ v):=
 h.trans (nZ (o:=k) d c [v])
theorem bJ.block {w:World}{base:Nat}{E:TypeId}{g n cap:Nat}{l:List UInt8}(h:bJ w base E (.slice (some ⟨g,0,none⟩) n cap) l):∃d e,w.heap[g]?=some (.cells d E e)/\base<=g:=by
 obtain⟨o,r,i,m,u,c⟩:=h;injection i with b _ hc;subst b;rcases c with⟨c,_⟩|⟨s,d,e,b,k,j,p,q,x⟩
 ·cases c
 injection b with b;injection b with b;subst b;exact⟨d,e,j,k⟩
theorem uy (n:Nat):(madeCells (Value.int .u8 0).cells (n*1)).toList=cb (List.replicate n 0):=by
 have b:(Value.int .u8 0).cells= #[.int .u8 0]:=rfl;rw[b,Zh];apply List.ext_getElem
 ·simp[madeCells,cb]
 intro i d c;simp[madeCells,cb,Nat.mod_one]
theorem bJ.append {P:Program}{w:World}{base:Nat}{E:TypeId}{v:Value}{l:List UInt8}(h:bJ w base E v l)(t e ty:TypeId)(i:TypeInfo)(r:P.underlying t=some (.slice E))(hi:P.info? E=some i)(hz:i.zero=some (.int .u8 0))(k:i.size=1)(R:i.bytes=1)
 (d:Value) (m:List UInt8) (K:Src P 1 e d m.length (cb m) w) (D:base<=w.heap.size) (Y:l.length+m.length<=140737488355328):
 ∃J w',(Builtin.append_ #[t,e] ty #[v,d]).run P w= .ok J w'/\bJ w' base E J (l++m)/\Kept E base w w':=by
 obtain⟨A,cap,rfl,M,H,G⟩:=h;have s:Src P i.size e d m.length (cb m) w:=by rw[k];exact K
 by_cases F:l.length+m.length<=cap
 ·rcases G with⟨b,B⟩|⟨g,n,C,b,p,c,u,z,o⟩
  ·subst b;subst B;have x:l= []:=zt (by omega);have O:m= []:=zt (by omega);subst x;subst O;exact⟨_,w,YB w t e ty E i r hi none 0 0 (zi _) d s,bJ.nil w base E,Kept.refl E base w⟩
  subst b;have q:=run_append_room_src (P:=P) w t e ty E i r hi g 0 l.length cap d m.length (cb m) s F
   (by
    intro j y;rw[bq]at y;have:0+l.length*i.size+j<n.size:=by rw[k,u];omega
    simp only[World.cell?,c];rw[Yb this];rfl)
   (by
    intro j y;rw[bq]at y;exact eC c (by rw[k];rcases o with h|h;exact .inl h;exact .inr (by omega)))
  rw[k,Zh,zQ]at q;obtain⟨N,W,Z,I⟩:=ie (cb m) l.length w n c (by rw[bq];omega);refine⟨_,_,q,⟨_,cap,by rw[zo],by rw[zo];exact F,H,.inr ⟨g,N,C,rfl,p,W,by omega, ?_,o⟩⟩,nZ c p _⟩;rw[zo,gb];rw[bq,z]at I;exact I
 have X:(Builtin.firstCells i.size l.length (.slice A l.length cap)).run P w.drew= .ok (cb l).toArray w.drew:=by
  rcases G with⟨b,B⟩|⟨g,n,C,b,p,c,u,z,o⟩
  ·subst b;subst B;have x:l= []:=zt (by omega);subst x;exact run_firstCells_none w.drew i.size 0 0 0
  have S:=bJ.cells (w:=w) (base:=base) (E:=E) (A:=A) (cap:=cap) (l:=l) ⟨A,cap,rfl,M,H,.inr ⟨g,n,C,b,p,c,u,z,o⟩⟩ ⟨g,0,none⟩ b;subst b;exact run_firstCells_some w.drew i.size l.length _ l.length cap (cb l) (by rw[bq,k,Zh]) S
 have U:Builtin.nextslicecap (l.length+m.length) cap*i.bytes<=281474976710656:=by
  rw[R];exact growslice_fits (by omega) (by omega)
 have q:=run_append_grow_src (P:=P) w t e ty E i (.int .u8 0) r hi hz A l.length cap (cb l) X d m.length (cb m) s (by omega) (by omega) U;have L:=grownCap_ge w (l.length+m.length) cap E;have g2:=ZZ w (l.length+m.length) cap E (by simp[maxLen];omega);refine⟨_,_,q,⟨_,_,by rw[zo],by rw[zo];exact L,by simpa[maxLen]using g2,.inr ⟨w.heap.size,_,(0,0),rfl,D,yX w.drew _, ?_, ?_,.inl rfl⟩⟩,((Kept.refl E base w).drew.alloc (by simpa using D) _)⟩
 ·simp only[Array.size_append,Yf,zo,bq,size_zeroCells];have:(Value.int .u8 0).cells.size=1:=rfl;rw[this];omega
 rw[Array.toList_append,zo,ye (by simp[bq]),gb];exact zC (by simp[bq])
theorem Kept.JU {E:TypeId}{base:Nat}{w w':World}(h:w.grownBy w' none)(c:base<=w.heap.size):Kept E base w w':=
 ⟨⟨h.os,h.tape,h.output,h.size,fun k b=>h.block k (by omega) (by simp)⟩,fun k o b _=>(h.block k (yj.1 b).1 (by simp)).trans b⟩
theorem aN {P:Program}{w:World}{ops:Array Oper}{rest:List Oper}{o:Oper}{a:Act}{Q:Exit->Act->World->Prop}(r:o.guard=none)(s x:Operand)(t d:TypeId)
 (C:o.op= .call {callee:= .builtin .append,args:= #[s,x],argTypes:= #[t,d]}) (base:Nat) (E:TypeId) (i:TypeInfo) (n:P.underlying t=some (.slice E)) (hi:P.info? E=some i) (hz:i.zero=some (.int .u8 0)) (B:i.size=1) (A:i.bytes=1)
 {v:Value} {l:List UInt8} (y:a.eval s=v) (h:bJ w base E v l) (b:Value) (m:List UInt8) (hx:a.eval x=b) (q:Src P 1 d b m.length (cb m) w) (p:base<=w.heap.size) (u:l.length+m.length<=140737488355328)
 (z:∀(e:Option Addr) (j c:Nat) w',bJ w' base E (.slice e j c) (l++m)->Kept E base w w'->wpList P ops Q rest (a.put o.dst (.slice e j c)) w'):wpList P ops Q (o::rest) a w:=by
 refine wpList_plain r fun K D=> ?_
 obtain⟨I,w',F,k,G⟩:=h.append (P:=P) t d o.type i n hi hz B A b m q p u;obtain⟨e,c,H,_⟩:=k.form;unfold Oper.wp;simp[execOp,C,resolve,invoke,builtin,y,hx,F,Result.andThen];subst H;exact D _ _ (z _ _ _ w' k G)
theorem jW {P:Program}{d e:TypeId}(i:P.underlying d=some (.slice e))(w:World)(E:TypeId)(b:Array Value)(m:List UInt8)(c:Nat)(h:b.toList=cb m):Src P 1 d (.slice (some ⟨w.heap.size,0,none⟩) m.length c) m.length (cb m) (w.alloc (.cells b E)):=
 Src.ofSlice _ i _ _ _ _ (by rw[bq,Zh]) (fun j u hu=>ZT (yX w (.cells b E)) j u (by rw[<-h]at hu;simpa using hu)) (uw m)
theorem iY {P:Program}{b:TypeId}(c:P.underlying b=some .string)(w:World)(s:ByteArray):Src P 1 b (.string s) s.data.toList.length (cb s.data.toList) w:=by
 have:=Src.ofString (P:=P) w c s;rw[aa];exact this
theorem JV {P:Program}{d i:TypeId}(e:P.underlying d=some (.slice i)){w:World}{base:Nat}{E:TypeId}{v:Value}{m:List UInt8}(h:bJ w base E v m):Src P 1 d v m.length (cb m) w:=by
 obtain⟨A,cap,rfl,l,r⟩:=h.form;cases A with
 |none=>
  obtain⟨n,o,j,_,_,b⟩:=h;injection j with c _ hc;subst c;subst hc;rcases b with⟨_,b⟩|⟨g,p,q,c,_⟩
  ·subst b;have k:m= []:=zt (by omega);subst k;exact Src.ofNil w e 0
  cases c
 |some ad=>exact Src.ofSlice w e ad _ _ _ (by rw[bq,Zh]) (h.cells ad rfl) (uw m)
theorem oC {a:Int}{x:Nat}(h:a=x)(hx:x<256):(#[Value.int .u8 a]:Array Value).toList=cb [ub x]:=by
 subst h;simp[cb,bh x hx]
theorem OB {a b:Int}{x y:Nat}(h:a=x)(hx:x<256)(c:b=y)(d:y<256):(#[Value.int .u8 a,.int .u8 b]:Array Value).toList=cb [ub x,ub y]:=by
 subst h;subst c;simp[cb,bh x hx,bh y d]
theorem tF {P:Program}{d e:TypeId}(j:P.underlying d=some (.slice e))(w:World)(E:TypeId)(b:Array Value)(m:List UInt8)(c g:Nat)(i:g=w.heap.size)(h:b.toList=cb m):Src P 1 d (.slice (some ⟨g,0,none⟩) m.length c) m.length (cb m) (w.alloc (.cells b E)):=by
 subst i;exact jW j w E b m c h
theorem bJ.df {w:World}{base:Nat}{E:TypeId}{v:Value}{l:List UInt8}(h:bJ w base E v l):∃A n cap,v= .slice A n cap/\Hid (n=l.length)/\n<=cap/\cap<=9223372036854775807:=by
 obtain⟨A,cap,d,c,b⟩:=h.form;exact⟨A,_,cap,d,za rfl,c,b⟩
theorem af.kept {E:TypeId}{base g:Nat}{w w':World}{t:TypeId}{b:Array Value}(h:af w g t b)(d:Kept E base w w')(i:t≠E):af w' g t b:=d.other g _ h (by
 intro c f e;injection e with _ e2;exact i e2)
theorem af.ag {w w':World}{g B:Nat}{t:TypeId}{b:Array Value}(h:af w g t b)(c:Below B w w')(d:g<B):af w' g t b:=(c.block g d).trans h
theorem a8 {w:World}{g:Nat}{t:TypeId}{a b c:Value}(h:af w g t #[a,b,c]):w.cell? ⟨g,0,none⟩=some a/\w.cell? ⟨g,1,none⟩=some b/\w.cell? ⟨g,2,none⟩=some c/\w.frozen? ⟨g,0,none⟩=false/\w.frozen? ⟨g,1,none⟩=false/\w.frozen? ⟨g,2,none⟩=false:=
 ⟨h.cell 0,h.cell 1,h.cell 2,h.frozen 0,h.frozen 1,h.frozen 2⟩
structure l8 (w w':World)(v v':Value):Prop where
 grown:w.grownBy w' v.ownBlock
 own:v'.ownBlock=v.ownBlock\/∃g,v'.ownBlock=some g/\w.heap.size<=g
theorem l8.refl (w:World)(v:Value):l8 w w v v:=⟨World.grownBy.refl _ _,.inl rfl⟩
theorem l8.size {w w':World}{v v':Value}(h:l8 w w' v v'):w.heap.size<=w'.heap.size:=h.grown.size
theorem l8.trans {a b c:World}{v i l:Value}(h:l8 a b v i)(k:l8 b c i l):l8 a c v l:=by
 refine⟨h.grown.andThen k.grown fun j d=> ?_, ?_⟩
 ·rcases h.own with e|⟨g,e,hg⟩
  ·exact .inr (by rw[<-e,d])
  rw[e]at d;injection d with d;exact .inl (by omega)
 rcases k.own with e|⟨g,e,hg⟩
 ·rcases h.own with e2|⟨g2,e2,tr⟩
  ·exact .inl (e.trans e2)
  exact .inr ⟨g2,e.trans e2,tr⟩
 exact .inr ⟨g,e,by have:=h.size;omega⟩
theorem du {a b:World}(h:Below a.heap.size a b):a.grownBy b none:=⟨h.os,h.tape,h.output,h.size,fun k c _=>h.block k c⟩
theorem jX {a b:World}(h:a.grownBy b none)(r:Option Nat):a.grownBy b r:=⟨h.os,h.tape,h.output,h.size,fun k c _=>h.block k c (by simp)⟩
theorem l8.ahead {a b c:World}{v d:Value}(h:Below a.heap.size a b)(k:l8 b c v d):l8 a c v d:=(show l8 a b v v from⟨jX (du h) _,.inl rfl⟩).trans k
theorem l8.behind {a b c:World}{v d:Value}(h:l8 a b v d)(k:Below b.heap.size b c):l8 a c v d:=h.trans (show l8 b c d d from⟨jX (du k) _,.inl rfl⟩)
theorem l8.below {B:Nat}{a b c:World}{v d:Value}(h:Below B a b)(k:l8 b c v d)(i:B<=b.heap.size)(e:∀g,v.ownBlock=some g->B<=g):Below B a c:=h.grown k.grown i e
theorem l8.block {a b:World}{v d:Value}(h:l8 a b v d){k:Nat}(c:k<a.heap.size)(i:v.ownBlock≠some k):b.heap[k]?=a.heap[k]?:=h.grown.block k c (fun e=>i e.symm)
theorem bJ.ge {w:World}{base:Nat}{E:TypeId}{v:Value}{l:List UInt8}(h:bJ w base E v l):∀g,v.ownBlock=some g->base<=g/\g<w.heap.size/\∃c d,w.heap[g]?=some (.cells c E d):=by
 obtain⟨A,cap,rfl,n,o,j⟩:=h;intro g e;rcases j with⟨b,_⟩|⟨m,c,d,b,k,i,_⟩
 ·subst b;cases e
 subst b;have:m=g:=by simpa[Value.ownBlock]using e
 subst this;exact⟨k,y7 i,c,d,i⟩
theorem bJ.dh {w:World}{base:Nat}{E t:TypeId}{v:Value}{l:List UInt8}{g:Nat}{c:Array Value}{d:Nat×Nat}(h:bJ w base E v l)(i:w.heap[g]?=some (.cells c t d))(j:t≠E):v.ownBlock≠some g:=by
 intro e;obtain⟨_,_,k,m,b⟩:=h.ge g e;rw[i]at b;injection b with b;injection b with _ b;exact j b
theorem bJ.ag {w w':World}{base:Nat}{E:TypeId}{v:Value}{l:List UInt8}(h:bJ w base E v l)(e:∀k,k<w.heap.size->v.ownBlock=some k->w'.heap[k]?=w.heap[k]?):bJ w' base E v l:=by
 obtain⟨A,cap,rfl,c,d,b⟩:=h;refine⟨A,cap,rfl,c,d, ?_⟩;rcases b with b|⟨g,cur,fr,hA,hg,hh,r⟩
 ·exact .inl b
 exact .inr ⟨g,cur,fr,hA,hg,(e g (y7 hh) (by subst hA;rfl)).trans hh,r⟩
theorem af.SH {w w':World}{g:Nat}{t:TypeId}{b:Array Value}{v e:Value}(h:af w g t b)(c:l8 w w' v e)(d:v.ownBlock≠some g):af w' g t b:=(c.block h.lt d).trans h
theorem bJ.SI {P:Program}{w:World}{base:Nat}{E:TypeId}{v:Value}{l:List UInt8}(h:bJ w base E v l)(t d ty:TypeId)(i:TypeInfo)(s:P.underlying t=some (.slice E))(hi:P.info? E=some i)(hz:i.zero=some (.int .u8 0))(o:i.size=1)(W:i.bytes=1)
 (c:Value) (m:List UInt8) (M:Src P 1 d c m.length (cb m) w) (L:base<=w.heap.size) (ab:l.length+m.length<=140737488355328):
 ∃z w',(Builtin.append_ #[t,d] ty #[v,c]).run P w= .ok z w'/\bJ w' base E z (l++m)/\l8 w w' v z:=by
 obtain⟨A,cap,rfl,O,J,I⟩:=h;have u:Src P i.size d c m.length (cb m) w:=by rw[o];exact M
 by_cases H:l.length+m.length<=cap
 ·rcases I with⟨b,F⟩|⟨g,p,G,b,B,n,x,D,q⟩
  ·subst b;subst F;have y:l= []:=zt (by omega);have S:m= []:=zt (by omega);subst y;subst S;exact⟨_,w,YB w t d ty E i s hi none 0 0 (zi _) c u,bJ.nil w base E,l8.refl _ _⟩
  subst b;have r:=run_append_room_src (P:=P) w t d ty E i s hi g 0 l.length cap c m.length (cb m) u H
   (by
    intro j C;rw[bq]at C;have:0+l.length*i.size+j<p.size:=by rw[o,x];omega
    simp only[World.cell?,n];rw[Yb this];rfl)
   (by
    intro j C;rw[bq]at C;exact eC n (by rw[o];rcases q with h|h;exact .inl h;exact .inr (by omega)))
  rw[o,Zh,zQ]at r;obtain⟨R,Z,c2,K⟩:=ie (cb m) l.length w p n (by rw[bq];omega);refine⟨_,_,r,⟨_,cap,by rw[zo],by rw[zo];exact H,J,.inr ⟨g,R,G,rfl,B,Z,by omega, ?_,q⟩⟩,⟨World.os_setCells _ _ _ _,kq _ _ _ _,YA _ _ _ _,by rw[ig];exact zi _,fun k U ch=>Ya w g l.length (cb m) U (fun e=>ch (by subst e;rfl))⟩,.inl rfl⟩;rw[zo,gb];rw[bq,D]at K;exact K
 have aa:(Builtin.firstCells i.size l.length (.slice A l.length cap)).run P w.drew= .ok (cb l).toArray w.drew:=by
  rcases I with⟨b,F⟩|⟨g,p,G,b,B,n,x,D,q⟩
  ·subst b;subst F;have y:l= []:=zt (by omega);subst y;exact run_firstCells_none w.drew i.size 0 0 0
  have X:=bJ.cells (w:=w) (base:=base) (E:=E) (A:=A) (cap:=cap) (l:=l) ⟨A,cap,rfl,O,J,.inr ⟨g,p,G,b,B,n,x,D,q⟩⟩ ⟨g,0,none⟩ b;subst b;exact run_firstCells_some w.drew i.size l.length _ l.length cap (cb l) (by rw[bq,o,Zh]) X
 have Y:Builtin.nextslicecap (l.length+m.length) cap*i.bytes<=281474976710656:=by
  rw[W];exact growslice_fits (by omega) (by omega)
 have r:=run_append_grow_src (P:=P) w t d ty E i (.int .u8 0) s hi hz A l.length cap (cb l) aa c m.length (cb m) u (by omega) (by omega) Y;have N:=grownCap_ge w (l.length+m.length) cap E;have g2:=ZZ w (l.length+m.length) cap E (by simp[maxLen];omega);refine⟨_,_,r,⟨_,_,by rw[zo],by rw[zo];exact N,by simpa[maxLen]using g2,.inr ⟨w.heap.size,_,(0,0),rfl,L,yX w.drew _, ?_, ?_,.inl rfl⟩⟩,jX (du ((zq w.heap.size w).drew.alloc (by simp) _)) _,.inr ⟨w.heap.size,rfl,zi _⟩⟩
 ·simp only[Array.size_append,Yf,zo,bq,size_zeroCells];have:(Value.int .u8 0).cells.size=1:=rfl;rw[this];omega
 rw[Array.toList_append,zo,ye (by simp[bq]),gb];exact zC (by simp[bq])
theorem mz {P:Program}{w:World}{o:Oper}{a:Act}{K:Act->World->Prop}{Q:Exit->Act->World->Prop}(s x:Operand)(t j:TypeId)
 (B:o.op= .call {callee:= .builtin .append,args:= #[s,x],argTypes:= #[t,j]}) (base:Nat) (E:TypeId) (i:TypeInfo) (n:P.underlying t=some (.slice E)) (hi:P.info? E=some i) (hz:i.zero=some (.int .u8 0)) (A:i.size=1) (z:i.bytes=1)
 {v:Value} {l:List UInt8} (u:a.eval s=v) (h:bJ w base E v l) (e:Value) (m:List UInt8) (hx:a.eval x=e) (q:Src P 1 j e m.length (cb m) w) (p:base<=w.heap.size) (r:l.length+m.length<=140737488355328)
 (y:∀(c:Option Addr) (d b:Nat) w',bJ w' base E (.slice c d b) (l++m)->l8 w w' v (.slice c d b)->K (a.put o.dst (.slice c d b)) w'):Oper.wp P o a w K Q:=by
 obtain⟨G,w',C,k,D⟩:=h.SI (P:=P) t j o.type i n hi hz A z e m q p r;obtain⟨c,b,F,_⟩:=k.form;unfold Oper.wp;simp[execOp,B,resolve,invoke,builtin,u,hx,C,Result.andThen];subst F;exact y _ _ _ w' k D
theorem cm {P:Program}{w:World}{ops:Array Oper}{rest:List Oper}{o:Oper}{a:Act}{Q:Exit->Act->World->Prop}(q:o.guard=none)(s x:Operand)(t j:TypeId)
 (B:o.op= .call {callee:= .builtin .append,args:= #[s,x],argTypes:= #[t,j]}) (base:Nat) (E:TypeId) (i:TypeInfo) (k:P.underlying t=some (.slice E)) (hi:P.info? E=some i) (hz:i.zero=some (.int .u8 0)) (A:i.size=1) (z:i.bytes=1)
 {v:Value} {l:List UInt8} (u:a.eval s=v) (h:bJ w base E v l) (e:Value) (m:List UInt8) (hx:a.eval x=e) (p:Src P 1 j e m.length (cb m) w) (n:base<=w.heap.size) (r:l.length+m.length<=140737488355328)
 (y:∀(d:Option Addr) (b c:Nat) w',bJ w' base E (.slice d b c) (l++m)->l8 w w' v (.slice d b c)->wpList P ops Q rest (a.put o.dst (.slice d b c)) w'):wpList P ops Q (o::rest) a w:=
 wpList_plain q fun _ C=>mz s x t j B base E i k hi hz A z u h e m hx p n r fun d b c w' D F=>C _ _ (y d b c w' D F)
theorem qV {P:Program}{w:World}{ops:Array Oper}{o:Oper}{a:Act}{K:Act->World->Prop}{Q:Exit->Act->World->Prop}{y:Prop}(r:o.guard=none)(s x:Operand)(t e:TypeId)
 (D:o.op= .call {callee:= .builtin .append,args:= #[s,x],argTypes:= #[t,e]}) (base:Nat) (E:TypeId) (i:TypeInfo) (k:P.underlying t=some (.slice E)) (hi:P.info? E=some i) (hz:i.zero=some (.int .u8 0)) (C:i.size=1) (B:i.bytes=1)
 {v:Value} {l:List UInt8} (z:a.eval s=v) (h:bJ w base E v l) (c:Value) (m:List UInt8) (hx:a.eval x=c) (p:Src P 1 e c m.length (cb m) w) (n:base<=w.heap.size) (u:l.length+m.length<=140737488355328)
 (A:∀(j:Option Addr) (b d:Nat) w',bJ w' base E (.slice j b d) (l++m)->l8 w w' v (.slice j b d)->K (a.put o.dst (.slice j b d)) w'):
 if Region.wanted o (yielded ops a.tmps)=true then Oper.wp P o a w K Q else y:=by
 have q:Region.wanted o (yielded ops a.tmps)=true:=by simp[Region.wanted,r]
 rw[zl q];exact mz s x t e D base E i k hi hz C B z h c m hx p n u A
theorem oD {s:ByteArray}{k:Nat}{b:UInt8}(c:s.data.toList[k]?=some b):∃h:k<s.size,s[k]=b:=by
 have h:k<s.size:=by
  have:=(Zo.1 c).1;simpa using this
 refine⟨h, ?_⟩;rw[gz s k h]at c;injection c
theorem kL {s:ByteArray}{size f k b c:Nat}{out d:List UInt8}(h:k<s.size)(i:s[k].toNat=b)(e:bT s size k b out=(0,c,d)):gN s size (f+1) k out=gN s size f c d:=by
 rw[gN,Yn h,i,e,zl rfl]
theorem lt_of_cell {w:World}{b o:Nat}{v:Value}(h:w.cell? ⟨b,o,none⟩=some v):b<w.heap.size:=by
 rcases Zl b w.heap.size with h'|h'
 ·exact h'
 simp[World.cell?,xZ h']at h
mutual
def bW (w:World)(B:Nat):It->Value->Value->Value->Prop
 | .mk t l s,c0,c1,c2=>c0= .string t/\c1= .bool l/\t.size<=9223372036854775807/\s.length<=9223372036854775807/\∃A cap,c2= .slice A s.length cap/\s.length<=cap/\cap<=9223372036854775807/\bU w B s A 0
def bU (w:World)(B:Nat):List It->Option Addr->Nat->Prop
 | [],_,_=>True
 |x::xs,A,i=>(∃b o c0 c1 c2,A=some ⟨b,o,none⟩/\b<B/\w.cell? ⟨b,o+i*3,none⟩=some c0/\w.cell? ⟨b,o+i*3+1,none⟩=some c1/\w.cell? ⟨b,o+i*3+2,none⟩=some c2/\bW w B x c0 c1 c2)/\bU w B xs A (i+1)
end
theorem bU.at_ {w:World}{B:Nat}{A:Option Addr}:∀{s:List It} {i:Nat},bU w B s A i->∀(j:Nat) (h:j<s.length),∃b o e d c,A=some ⟨b,o,none⟩/\b<B/\w.cell? ⟨b,o+(i+j)*3,none⟩=some e/\w.cell? ⟨b,o+(i+j)*3+1,none⟩=some d/\w.cell? ⟨b,o+(i+j)*3+2,none⟩=some c/\bW w B s[j] e d c
 | [],_,_,j,h=>by simp at h
 |x::xs,i,hi,0,_=>by simpa[bU]using hi.1
 |x::xs,i,hi,j+1,h=>by
  have:=bU.at_ hi.2 j (by simpa using h);rw[show i+1+j=i+(j+1)from by omega]at this;simpa using this
theorem bU.En {w:World}{B:Nat}{A:Option Addr}:∀{s:List It} {i:Nat},(∀(j:Nat) (h:j<s.length),∃b o e c d,A=some ⟨b,o,none⟩/\b<B/\w.cell? ⟨b,o+(i+j)*3,none⟩=some e/\w.cell? ⟨b,o+(i+j)*3+1,none⟩=some c/\w.cell? ⟨b,o+(i+j)*3+2,none⟩=some d/\bW w B s[j] e c d)->bU w B s A i
 | [],_,_=>by simp[bU]
 |x::xs,i,h=>by
  refine⟨h 0 (ZH _),bU.En fun j k=> ?_⟩;have:=h (j+1) (by simpa using k);rw[show i+(j+1)=i+1+j from by omega]at this;simpa using this
theorem bW.open_ {w:World}{B:Nat}{x:It}{c b d:Value}(h:bW w B x c b d):∃A cap,c= .string x.text/\b= .bool x.list/\d= .slice A x.sub.length cap/\x.text.size<=9223372036854775807/\x.sub.length<=cap/\cap<=9223372036854775807/\bU w B x.sub A 0:=by
 cases x with
 |mk t l s=>
  obtain⟨i,m,k,p,A,cap,e,o,j,n⟩:=h;exact⟨A,cap,i,m,e,k,o,j,n⟩
theorem bW.ag {w w':World}{B n:Nat}(J:B<=n)(d:∀p:Addr,p.block<B->w'.cell? p=w.cell? p):∀(x:It) {k i e:Value},bW w B x k i e->bW w' n x k i e:=by
 intro x;induction x using It.ind with
 |h t l s ih=>
  intro k i e h;obtain⟨H,D,r,u,A,cap,G,F,z,E⟩:=h;refine⟨H,D,r,u,A,cap,G,F,z,bU.En fun j m=> ?_⟩;obtain⟨b,o,d0,d1,d2,y,c,q,C,I,hi⟩:=E.at_ j m;exact⟨b,o,d0,d1,d2,y,by omega,(d _ c).trans q,(d _ c).trans C,(d _ c).trans I,ih _ (zM m) hi⟩
theorem bW.below {w w':World}{B:Nat}{x:It}{c b d:Value}(h:bW w B x c b d)(e:Below B w w'):bW w' B x c b d:=bW.ag (zi _) (fun _ i=>e.cell i) x h
theorem bW.mono {w:World}{B c:Nat}{x:It}{d b e:Value}(h:bW w B x d b e)(i:B<=c):bW w c x d b e:=bW.ag i (fun _ _=>rfl) x h
theorem bU.below {w w':World}{B i:Nat}{s:List It}{A:Option Addr}(h:bU w B s A i)(c:Below B w w'):bU w' B s A i:=bU.En fun j n=>by
 obtain⟨b,o,d0,d1,d2,m,d,l,e,k,hi⟩:=h.at_ j n;exact⟨b,o,d0,d1,d2,m,d,(c.cell d).trans l,(c.cell d).trans e,(c.cell d).trans k,hi.below c⟩
theorem bW.one {w:World}{B:Nat}{x:It}{d c b:Value}(h:bW w B x d c b):d.oneCell'=true/\c.oneCell'=true/\b.oneCell'=true:=by
 obtain⟨A,cap,rfl,rfl,rfl,_⟩:=h.open_;exact⟨rfl,rfl,rfl⟩
def iK (w:World)(B:Nat):List It->List Value->Prop
 | [],cs=>cs= []
 |x::xs,cs=>∃c0 c1 c2 ds,cs=c0::c1::c2::ds/\bW w B x c0 c1 c2/\iK w B xs ds
theorem iK.length {w:World}{B:Nat}:∀{s:List It} {b:List Value},iK w B s b->b.length=s.length*3
 | [],b,h=>by simp[iK]at h;simp[h]
 |x::xs,b,h=>by
  obtain⟨i,e,j,d,rfl,_,c⟩:=h;have:=c.length;simp only[zB,this];omega
theorem iK.one {w:World}{B:Nat}:∀{s:List It} {b:List Value},iK w B s b->∀u∈b,u.oneCell'=true
 | [],b,h=>by simp[iK]at h;simp[h]
 |x::xs,b,h=>by
  obtain⟨l,k,m,j,rfl,i,e⟩:=h;have c:=i.one;have d:=e.one;intro u hu;simp only[xq]at hu;rcases hu with rfl|rfl|rfl|hu
  ·exact c.1
  ·exact c.2.1
  ·exact c.2.2
  exact d u hu
theorem iK.ag {w w':World}{B c:Nat}(e:B<=c)(d:∀p:Addr,p.block<B->w'.cell? p=w.cell? p):∀{s:List It} {b:List Value},iK w B s b->iK w' c s b
 | [],b,h=>h
 |x::xs,b,h=>by
  obtain⟨m,l,n,j,rfl,k,i⟩:=h;exact⟨m,l,n,j,rfl,bW.ag e d x k,i.ag e d⟩
theorem bU.cells {w:World}{B:Nat}{b o:Nat}:∀{s:List It} {i:Nat},bU w B s (some ⟨b,o,none⟩) i->∃e,iK w B s e/\∀j u,e[j]?=some u->w.cell? ⟨b,o+i*3+j,none⟩=some u
 | [],i,_=>⟨[],rfl,by simp⟩
 |x::xs,i,h=>by
  obtain⟨⟨z,A,l,k,m,c,_,r,p,q,hi⟩,n⟩:=h;injection c with c;injection c with hb ho;subst hb;subst ho;obtain⟨d,hd,y⟩:=n.cells;refine⟨l::k::m::d,⟨l,k,m,d,rfl,hi,hd⟩,fun j u hu=> ?_⟩;match j,hu with
  |0,hu=>simp at hu;subst hu;exact r
  |1,hu=>simp at hu;subst hu;exact p
  |2,hu=>simp at hu;subst hu;exact q
  |j+3,hu=>
   have:=y j u (by simpa using hu);rw[show o+i*3+(j+3)=o+(i+1)*3+j from by omega];exact this
theorem bU.eT {w:World}{B:Nat}{b o:Nat}(d:b<B):∀{s:List It} {i:Nat} {c:List Value},iK w B s c->(∀j u,c[j]?=some u->w.cell? ⟨b,o+i*3+j,none⟩=some u)->bU w B s (some ⟨b,o,none⟩) i
 | [],_,_,_,_=>trivial
 |x::xs,i,c,h,hc=>by
  obtain⟨k,e,l,p,rfl,n,m⟩:=h;refine⟨⟨b,o,k,e,l,rfl,d,by simpa using hc 0 k (by simp),hc 1 e (by simp),hc 2 l (by simp),n⟩,bU.eT d m fun j u hu=> ?_⟩;have:=hc (j+3) u (by simpa using hu);rw[show o+(i+1)*3+j=o+i*3+(j+3)from by omega];exact this
theorem Bn (n:Nat):(madeCells #[Value.int .u8 0] n).toList=cb (List.replicate n 0):=by
 have:=uy n;rw[Zh]at this;exact this
theorem LN (n:Nat):(madeCells #[Value.int .u8 0] n).size=n:=by
 have:=xj List.length (Bn n);rw[bq,xJ]at this;simpa using this
theorem lR {P:Program}(w:World){ops:Array Oper}{rest:List Oper}{o:Oper}{a:Act}{Q:Exit->Act->World->Prop}
 (x:o.guard=none) (l c:Operand) (t:TypeId) (C:o.op=Op.makeSlice t l c)
 (base:Nat) (e:TypeId) (i:TypeInfo) (s:P.underlying t=some (.slice e)) (hi:P.info? e=some i) (hz:i.zero=some (.int .u8 0)) (u:i.size=1) (r:i.bytes=1)
 (p j:IntKind) (m n:Nat) (y:a.eval l= .int p (m:Int)) (B:a.eval c= .int j (n:Int)) (d:m<=n) (D:n<=281474976710656) (h:base<=w.heap.size)
 (z:∀w',bJ w' base e (.slice (some ⟨w.heap.size,0,none⟩) m n) (List.replicate m 0)->Kept e base w w'->Below w.heap.size w w'->wpList P ops Q rest (a.put o.dst (.slice (some ⟨w.heap.size,0,none⟩) m n)) w'):
 wpList P ops Q (o::rest) a w:=by
 refine wpList_plain x fun K A=> ?_
 have k:=run_make (P:=P) w t e i (.int .u8 0) s hi hz p j m n (by omega) (by omega) (by rw[r];omega) (by omega);simp only[Int.toNat_natCast,u,Zh]at k;have q:bJ (w.alloc (.cells (madeCells #[Value.int .u8 0] n) e)) base e (.slice (some ⟨w.heap.size,0,none⟩) m n) (List.replicate m 0):=by
  refine⟨some ⟨w.heap.size,0,none⟩,n,by rw[xJ],by rw[xJ];exact d,by omega,.inr ⟨w.heap.size,madeCells #[Value.int .u8 0] n,(0,0),rfl,h,yX w _,LN n, ?_,.inl rfl⟩⟩;rw[xJ,Bn,<-SF,List.take_replicate,yK d]
 have b:Below w.heap.size w (w.alloc (.cells (madeCells #[Value.int .u8 0] n) e)):=(zq _ w).alloc (zi _) _;unfold Oper.wp;simp[execOp,C,y,B,k,Result.andThen];exact A _ _ (z _ q (Kept.ah b (zi _) h) b)
theorem af.at_ {c:World}{k:Nat}{t:TypeId}{b:Array Value}(hz:c.heap.size=k):af (c.alloc (.cells b t)) k t b:=hz▸af.new c t b
