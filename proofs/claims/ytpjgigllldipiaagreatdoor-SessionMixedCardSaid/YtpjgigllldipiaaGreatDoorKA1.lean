/- Words for memory: a block that is known whole ('Blk'), a world that has turned at some blocks alone ('Only'), a slice that reads as a list ('Reads'). Own text; no program in sight. -/
import Derived.WalkKit
import Derived.Deep.AppendLies
import Derived.Deep.Draws
import Derived.Lib.Hide
import Derived.Lib.AtoiErrMem
import Derived.Test.YtpjgigllldipiaaGreatDoorKA2
import Derived.Deep.Upon
import Derived.Deep.RegionLaw
import Derived.Maps.Range
import Derived.Deep.OwnRows
set_option linter.all false
namespace Go.Proofs.YtpjgigllldipiaaGreatDoor
open Go.RowKit
def za:=@Lib.hid
def zq:=@Below.refl
def zE:=@World.cell?_alloc_lt
def zK:=@Nat.le_trans
def zL:=@World.cell?_of_block
def zM:=@List.getElem_mem
def zT:=@Nat.zero_add
def zY:=@Below.heap_setCell
def yl:=@Array.getElem?_eq_some_iff
def yP:=@List.getElem?_take_of_lt
def yW:=@heap_alloc_new
def y9:=@lt_of_block
def xL:=@List.mem_map
def xV:=@Array.getElem?_eq_none
def xX:=@List.getElem?_map
def Ze:=@Nat.mul_one
def Zo:=@List.getElem?_eq_some_iff
def Zu:=@List.length_set
def ZH:=@Array.getElem?_modify
def ZI:=@Nat.zero_lt_succ
def ZL:=@Below.heap_alloc
def ZS:=@World.news_of_block
def ZY:=@grownCap_le_maxLen
def Z8:=@Array.toList_setIfInBounds
def Z9:=@World.heap_setCells_other
def Ya:=@Array.getElem?_eq_getElem
def Yf:=@List.size_toArray
def Yg:=@run_convert_bytes_string
def Yy:=@World.output_setCells
def af (w:World)(g:Nat)(t:TypeId)(cs:Array Value):Prop:=w.heap[g]?=some (.cells cs t (0,0))
theorem af.lt {w:World}{g:Nat}{t:TypeId}{b:Array Value}(h:af w g t b):g<w.heap.size:=y9 h
theorem af.cell {w:World}{g:Nat}{t:TypeId}{b:Array Value}(h:af w g t b)(i:Nat):w.cell? ⟨g,i,none⟩=b[i]?:=by
 unfold af at h;simp[World.cell?,h]
theorem af.frozen {w:World}{g:Nat}{t:TypeId}{b:Array Value}(h:af w g t b)(i:Nat):w.frozen? ⟨g,i,none⟩=false:=by
 unfold af at h;simp[World.frozen?,h]
theorem af.new (w:World)(t:TypeId)(b:Array Value):af (w.alloc (.cells b t)) w.heap.size t b:=yW w _
theorem af.drew {w:World}{g:Nat}{t:TypeId}{b:Array Value}(h:af w g t b):af w.drew g t b:=h
theorem af.drewN {w:World}{g:Nat}{t:TypeId}{b:Array Value}(h:af w g t b)(n:Nat):af (w.drewN n) g t b:=h
theorem af.alloc {w:World}{g:Nat}{t:TypeId}{b:Array Value}(h:af w g t b)(o:Obj):af (w.alloc o) g t b:=(ZL w o g h.lt).trans h
theorem af.set {w:World}{g:Nat}{t:TypeId}{b:Array Value}(h:af w g t b)(i:Nat)(u:Value):af (w.setCell ⟨g,i,none⟩ u) g t (b.setIfInBounds i u):=by
 unfold af at h⊢;simp[World.setCell,ZH,h]
theorem af.dE {w:World}{g:Nat}{t:TypeId}{b:Array Value}(h:af w g t b){p:Addr}(c:g≠p.block)(u:Value):af (w.setCell p u) g t b:=(zY w p u g c).trans h
theorem af.beside {w:World}{g:Nat}{t:TypeId}{b:Array Value}{p:Addr}(c:g≠p.block)(h:af w g t b)(u:Value):af (w.setCell p u) g t b:=h.dE c u
theorem af.store {w:World}{g:Nat}{t:TypeId}{b c:Array Value}{i:Nat}{u:Value}(h:af w g t b)(e:b.setIfInBounds i u=c):af (w.setCell ⟨g,i,none⟩ u) g t c:=e▸h.set i u
structure ae (L:List Nat)(w w':World):Prop where
 os:w'.os=w.os
 tape:w'.tape=w.tape
 output:w'.output=w.output
 size:w.heap.size<=w'.heap.size
 block:∀k,k<w.heap.size->k∉L->w'.heap[k]?=w.heap[k]?
theorem ae.refl (L:List Nat)(w:World):ae L w w:=⟨rfl,rfl,rfl,zf _,fun _ _ _=>rfl⟩
theorem ae.trans' {L M:List Nat}{a b c:World}(h:ae L a b)(k:ae M b c)(e:∀i,i∈M->i∈L\/a.heap.size<=i):ae L a c:=
 ⟨k.os.trans h.os,k.tape.trans h.tape,k.output.trans h.output,zK h.size k.size,fun i hi d=>
  (k.block i (yg hi h.size) (fun j=>by rcases e i j with h1|h1;exact d h1;omega)).trans (h.block i hi d)⟩
theorem ae.trans {L:List Nat}{a b c:World}(h:ae L a b)(k:ae L b c):ae L a c:=h.trans' k fun _ hi=> .inl hi
theorem ae.mono {L M:List Nat}{w w':World}(h:ae L w w')(c:∀i,i∈L->i∈M):ae M w w':=⟨h.os,h.tape,h.output,h.size,fun k d b=>h.block k d (fun e=>b (c k e))⟩
theorem ae.drew {L:List Nat}{a w:World}(h:ae L a w):ae L a w.drew:=⟨h.os,h.tape,h.output,h.size,h.block⟩
theorem ae.drewN {L:List Nat}{a w:World}(h:ae L a w)(n:Nat):ae L a (w.drewN n):=⟨h.os,h.tape,h.output,h.size,h.block⟩
theorem ae.alloc {L:List Nat}{a w:World}(h:ae L a w)(o:Obj):ae L a (w.alloc o):=
 ⟨h.os,h.tape,h.output,zK h.size (by simp),fun k b c=>(ZL w o k (yg b h.size)).trans (h.block k b c)⟩
theorem ae.setCell {L:List Nat}{a w:World}(h:ae L a w){p:Addr}(b:p.block∈L\/a.heap.size<=p.block)(u:Value):ae L a (w.setCell p u):=
 ⟨h.os,h.tape,h.output,by simpa[World.setCell]using h.size,fun k d c=>(zY w p u k (by
  rintro rfl;rcases b with b|b
  ·exact c b
  omega)).trans (h.block k d c)⟩
theorem ae.put {L:List Nat}{a w:World}{p:Addr}(b:p.block∈L\/a.heap.size<=p.block)(h:ae L a w)(u:Value):ae L a (w.setCell p u):=h.setCell b u
theorem ae.gz {w w':World}{row:Option Nat}(h:w.grownBy w' row):ae row.toList w w':=
 ⟨h.os,h.tape,h.output,h.size,fun k c b=>h.block k c (fun e=>b (by simp[<-e]))⟩
theorem ae.grown {L:List Nat}{a w w':World}{row:Option Nat}(h:ae L a w)(b:w.grownBy w' row)(c:∀k,row=some k->k∈L\/a.heap.size<=k):ae L a w':=
 h.trans' (ae.gz b) fun i hi=>c i (by simpa using hi)
theorem ae.ag {B:Nat}{w w':World}(h:Below B w w')(c:w.heap.size<=B):ae [] w w':=⟨h.os,h.tape,h.output,h.size,fun k b _=>h.block k (by omega)⟩
theorem ae.below {L:List Nat}{w w':World}(h:ae L w w'){B:Nat}(d:B<=w.heap.size)(b:∀i,i∈L->B<=i):Below B w w':=
 ⟨h.os,h.tape,h.output,h.size,fun k c=>h.block k (by omega) (fun hi=>by have:=b k hi;omega)⟩
theorem ae.cell {L:List Nat}{w w':World}(h:ae L w w'){p:Addr}(c:p.block<w.heap.size)(b:p.block∉L):w'.cell? p=w.cell? p:=zL (h.block _ c b)
theorem ae.frozen {L:List Nat}{w w':World}(h:ae L w w'){p:Addr}(c:p.block<w.heap.size)(b:p.block∉L):w'.frozen? p=w.frozen? p:=World.frozen?_of_block (h.block _ c b)
theorem af.only {L:List Nat}{w w':World}{g:Nat}{t:TypeId}{b:Array Value}(h:af w g t b)(c:ae L w w')(d:g∉L):af w' g t b:=(c.block g h.lt d).trans h
theorem ae.own {L:List Nat}{w w':World}(h:ae L w w'){base:Nat}{e:TypeId}{size:Nat}{v:Value}{n:Nat}{xs:List Value}(i:w.ownsRow base e size v n xs)
 (c:∀g,v.ownBlock=some g->g∉L):w'.ownsRow base e size v n xs:=by
 obtain⟨d,b⟩:=i;refine⟨d, ?_⟩;rcases b with b|⟨g,cap,cur,hv,hg,hh,r⟩
 ·exact Or.inl b
 subst hv;exact Or.inr ⟨g,cap,cur,rfl,hg,(h.block g (y9 hh) (c g rfl)).trans hh,r⟩
def cb (l:List UInt8):List Value:=l.map fun b=> .int .u8 b.toNat
theorem bq (l:List UInt8):(cb l).length=l.length:=List.length_map ..
theorem fV (l m:List UInt8):cb (l++m)=cb l++cb m:=List.map_append ..
theorem Ed (l:List UInt8)(j:Nat):(cb l)[j]?=(l[j]?).map fun b=> .int .u8 b.toNat:=xX ..
theorem uf (l:List UInt8):∀u∈cb l,u.oneCell'=true:=by
 intro u hu;simp only[cb,xL]at hu;obtain⟨b,_,rfl⟩:=hu;rfl
theorem So (l:List UInt8)(k:Nat):cb (l.drop k)=(cb l).drop k:=by simp[cb]
theorem Sp (l:List UInt8)(k:Nat):cb (l.take k)=(cb l).take k:=by simp[cb]
theorem dX {w:World}{base:Nat}{e t:TypeId}{size n cap g h:Nat}{xs:List Value}{d:Array Value}(i:w.ownsRow base e size (.slice (some ⟨h,0,none⟩) n cap) n xs)(c:af w g t d)(l:e≠t):h≠g:=by
 rintro rfl;rcases i.2 with⟨k,_⟩|⟨m,o,p,b,_,j,_⟩
 ·cases k
 injection b with b;injection b with b;injection b with b;subst b;unfold af at c;rw[j]at c;injection c with c;injection c with _ ht;exact l ht
theorem qO {w:World}{base:Nat}{e:TypeId}{size n cap h:Nat}{xs:List Value}(j:w.ownsRow base e size (.slice (some ⟨h,0,none⟩) n cap) n xs):n<=cap/\cap<=9223372036854775807/\base<=h/\h<w.heap.size:=by
 rcases j.2 with⟨l,_⟩|⟨m,o,p,b,c,k,i,d,_⟩
 ·cases l
 injection b with b kb DS;injection b with b;injection b with b;subst b;subst DS;exact⟨i,by simpa[maxLen]using d,c,y9 k⟩
theorem pw {w:World}{base:Nat}{e:TypeId}{size n:Nat}{v:Value}{xs:List Value}(d:w.ownsRow base e size v n xs)(b:v≠ .slice none 0 0):∃h cap,v= .slice (some ⟨h,0,none⟩) n cap:=by
 rcases d.2 with⟨j,_⟩|⟨c,i,k,b,_⟩
 ·exact absurd j b
 exact⟨c,i,b⟩
theorem GW (l:List UInt8)(s:ByteArray):(l.map fun b=>(b.toNat:Int)).foldl (fun r n=>r.push (UInt8.ofNat n.toNat)) s=⟨(s.data.toList++l).toArray⟩:=by
 induction l generalizing s with
 |nil=>cases s;simp
 |cons b t ih=>
  rw[List.map_cons,List.foldl_cons,ih];congr 1
  simp[ByteArray.push]
theorem Cp {P:Program}(w:World)(src dst e:TypeId)(d:P.underlying src=some (.slice e))(k:P.underlying e=some (.int .u8))(hd:P.underlying dst=some .string)(a:Addr)(cap:Nat)(l:List UInt8)
 (h:∀j u,(cb l)[j]?=some u->w.cell? (a.add j)=some u):(convert src dst (.slice (some a) l.length cap)).run P w= .ok (.string ⟨l.toArray⟩) w:=by
 rw[Yg w src dst e (some a) l.length cap d k hd];have i:cb l=(l.map fun b=>(b.toNat:Int)).map (Value.int .u8):=by simp[cb]
 have c:=run_loadCells_list (P:=P) (w:=w) a (cb l) h;rw[bq,i]at c;rw[run_bytesToString w a l.length cap _ c,GW];simp
theorem rV {P:Program}{w:World}{src dst e:TypeId}(c:P.underlying src=some (.slice e))(d:P.underlying e=some (.int .u8))(hd:P.underlying dst=some .string){base h cap:Nat}{l:List UInt8}
 (b:w.ownsRow base e 1 (.slice (some ⟨h,0,none⟩) l.length cap) l.length (cb l)):(convert src dst (.slice (some ⟨h,0,none⟩) l.length cap)).run P w= .ok (.string ⟨l.toArray⟩) w:=
 Cp w src dst e c d hd _ cap l (b.cells rfl)
theorem _root_.Go.RowKit.Below.afd {B:Nat}{a w:World}(b:B<=w.heap.size)(h:Below B a w)(o:Obj):Below B a (w.alloc o):=h.alloc b o
theorem _root_.Go.RowKit.Below.bB {B:Nat}{a w:World}(h:Below B a w)(n:Nat):Below B a (w.drewN n):=⟨h.os,h.tape,h.output,h.size,h.block⟩
theorem _root_.Go.World.ownsRow.bB {w:World}{base:Nat}{e:TypeId}{size:Nat}{v:Value}{n:Nat}{xs:List Value}(h:w.ownsRow base e size v n xs)(k:Nat):(w.drewN k).ownsRow base e size v n xs:=h
theorem rW {w:World}{g i:Nat}{v:Value}(b:g<w.heap.size)(h:w.cell? ⟨g,i,none⟩=some v)(e c d:Obj):(((w.alloc e).alloc c).alloc d).cell? ⟨g,i,none⟩=some v:=by
 rw[zE _ _ _ (by simp;omega),zE _ _ _ (by simp;omega),zE _ _ _ (by simpa using b)];exact h
theorem Cq {w:World}{g i:Nat}(e:g<w.heap.size)(h:w.frozen? ⟨g,i,none⟩=false)(d b c:Obj):(((w.alloc d).alloc b).alloc c).frozen? ⟨g,i,none⟩=false:=by
 rw[(((((ae.refl [] w).alloc d).alloc b).alloc c)).frozen e (by simp)];exact h
theorem nt {a b:ByteArray}(h:b=a):Ending.returned (.string a)= .returned (.string b):=by rw[h]
def strOf :Value->Nat
 | .string y=>y.size
 |_=>0
@[simp] theorem Sq (y:ByteArray):strOf (.string y)=y.size:=rfl
theorem aT {a b:Bool}(h:b=a):Ending.returned (.bool a)= .returned (.bool b):=by rw[h]
theorem lh {k:IntKind}{a b:Int}(h:a=b):Ending.returned (.int k a)= .returned (.int k b):=by rw[h]
class fL (B:Nat) (w w':World):Prop where
 out:Below B w w'
 le:B<=w'.heap.size
instance fL.refl (w:World):fL w.heap.size w w:=⟨zq _ _,zf _⟩
instance fL.alloc {B:Nat}{w w':World} [h:fL B w w'](o:Obj):fL B w (w'.alloc o):=⟨h.out.alloc h.le o,zK h.le (by simp)⟩
instance fL.drew {B:Nat}{w w':World} [h:fL B w w']:fL B w w'.drew:=⟨h.out.drew,h.le⟩
instance fL.drewN {B:Nat}{w w':World} [h:fL B w w'](n:Nat):fL B w (w'.drewN n):=⟨h.out.bB n,h.le⟩
theorem bN {B:Nat}{w w':World} [h:fL B w w']:Below B w w':=h.out
theorem blm {B:Nat}{w w':World}(b:B<=w.heap.size) [h:fL w.heap.size w w']:Below B w w':=h.out.mono b
theorem _root_.Go.RowKit.Below.up {w b w':World}(h:Below w.heap.size w b) [g:fL b.heap.size b w']:Below w.heap.size w w':=h.trans (g.out.mono h.size)
theorem _root_.Go.RowKit.Below.up' {B:Nat}{w b w':World}(h:Below B w b)(c:B<=b.heap.size) [g:fL b.heap.size b w']:Below B w w':=h.trans (g.out.mono c)
class Lo (g:Nat) (L:List Nat):Prop where
 out:g∈L
instance Lo.here (g:Nat)(L:List Nat):Lo g (g::L):=⟨by simp⟩
instance Lo.there {g:Nat}{L:List Nat} [h:Lo g L](k:Nat):Lo g (k::L):=⟨by simp[h.out]⟩
class dJ (L:List Nat) (a w:World):Prop where
 out:ae L a w
instance dJ.refl (L:List Nat)(w:World):dJ L w w:=⟨ae.refl L w⟩
instance dJ.alloc {L:List Nat}{a w:World} [h:dJ L a w](o:Obj):dJ L a (w.alloc o):=⟨h.out.alloc o⟩
instance dJ.drew {L:List Nat}{a w:World} [h:dJ L a w]:dJ L a w.drew:=⟨h.out.drew⟩
instance dJ.drewN {L:List Nat}{a w:World} [h:dJ L a w](n:Nat):dJ L a (w.drewN n):=⟨h.out.drewN n⟩
instance dJ.put {L:List Nat}{a w:World}{g:Nat} [h:dJ L a w] [m:Lo g L](i:Nat)(n:Option Nat)(u:Value):dJ L a (w.setCell ⟨g,i,n⟩ u):=⟨h.out.setCell (.inl m.out) u⟩
instance dJ.alg {L:List Nat}{a w:World} [h:dJ L a w](i:Nat)(n:Option Nat)(u:Value):dJ L a (w.setCell ⟨a.heap.size,i,n⟩ u):=⟨h.out.setCell (.inr (zf _)) u⟩
instance dJ.alh {L:List Nat}{a w:World} [h:dJ L a w](i:Nat)(n:Option Nat)(u:Value):dJ L a (w.setCell ⟨a.heap.size+1,i,n⟩ u):=⟨h.out.setCell (.inr (by simp)) u⟩
instance dJ.ali {L:List Nat}{a w:World} [h:dJ L a w](i:Nat)(n:Option Nat)(u:Value):dJ L a (w.setCell ⟨a.heap.size+1+1,i,n⟩ u):=⟨h.out.setCell (.inr (by simp;omega)) u⟩
theorem Cr {L:List Nat}{a w:World} [h:dJ L a w]:ae L a w:=h.out
theorem ae.up {L:List Nat}{a w w':World}(h:ae L a w) [g:dJ L w w']:ae L a w':=h.trans g.out
def ub (n:Int):UInt8:=UInt8.ofNat n.toNat
theorem bg (n:Nat)(h:n<256):(ub n).toNat=n:=by
 simp[ub];omega
theorem Ee {P:Program}{src dst e:TypeId}(k:P.underlying src=some (.slice e))(d:P.underlying e=some (.int .u8))(hd:P.underlying dst=some .string)(w:World)(xs:List Int)(cap:Nat):
 (convert src dst (.slice (some ⟨w.heap.size,0,none⟩) xs.length cap)).run P (w.alloc (.cells (xs.map (Value.int .u8)).toArray e))= .ok (.string ⟨(xs.map ub).toArray⟩) (w.alloc (.cells (xs.map (Value.int .u8)).toArray e)):=by
 rw[Yg _ src dst e _ xs.length cap k d hd];have c:=run_loadCells_list (P:=P) (w:=w.alloc (.cells (xs.map (Value.int .u8)).toArray e)) ⟨w.heap.size,0,none⟩ (xs.map (Value.int .u8)) (by
  intro j v i;have:=ZS (yW w (.cells (xs.map (Value.int .u8)).toArray e)) j v (by simpa using i);exact this)
 rw[List.length_map]at c;rw[run_bytesToString _ _ _ cap xs c];have h:∀(l:List Int) (s:ByteArray),l.foldl (fun r n=>r.push (UInt8.ofNat n.toNat)) s=⟨(s.data.toList++l.map ub).toArray⟩:=by
  intro l;induction l with
  |nil=>intro s;cases s;simp
  |cons b t ih=>
   intro s;rw[List.foldl_cons,ih];congr 1
   simp[ByteArray.push,ub]
 rw[h];simp
section
variable {P:Program} {src dst e:TypeId} (hs:P.underlying src=some (.slice e)) (he:P.underlying e=some (.int .u8)) (hd:P.underlying dst=some .string)
include hs he hd
theorem Ob (w:World)(a:Int):(convert src dst (.slice (some ⟨w.heap.size,0,none⟩) 1 1)).run P (w.alloc (.cells #[.int .u8 a] e))= .ok (.string ⟨#[ub a]⟩) (w.alloc (.cells #[.int .u8 a] e)):=Ee hs he hd w [a] 1
end
structure Kept (E:TypeId)(base:Nat)(w w':World):Prop where
 below:Below base w w'
 other:∀(k:Nat) (o:Obj),w.heap[k]?=some o->(∀cs fr,o≠Obj.cells cs E fr)->w'.heap[k]?=some o
theorem Kept.refl (E:TypeId)(base:Nat)(w:World):Kept E base w w:=⟨zq _ _,fun _ _ h _=>h⟩
theorem Kept.trans {E:TypeId}{base:Nat}{a b c:World}(h:Kept E base a b)(k:Kept E base b c):Kept E base a c:=
 ⟨h.below.trans k.below,fun i o hi d=>k.other i o (h.other i o hi d) d⟩
theorem Kept.ag {E:TypeId}{base B:Nat}{a b:World}(h:Below B a b)(d:a.heap.size<=B)(c:base<=a.heap.size):Kept E base a b:=
 ⟨h.mono (by omega),fun i o hi _=>(h.block i (by
  have:=(yl.1 hi).1;omega)).trans hi⟩
theorem Kept.alloc {E:TypeId}{base:Nat}{a w:World}(h:Kept E base a w)(b:base<=w.heap.size)(o:Obj):Kept E base a (w.alloc o):=
 h.trans (Kept.ag ((zq w.heap.size w).alloc (zf _) o) (zf _) b)
theorem Kept.drew {E:TypeId}{base:Nat}{a w:World}(h:Kept E base a w):Kept E base a w.drew:=⟨h.below.drew,h.other⟩
theorem Kept.size {E:TypeId}{base:Nat}{a w:World}(h:Kept E base a w):a.heap.size<=w.heap.size:=h.below.size
theorem Kept.mono {E:TypeId}{base b:Nat}{a w:World}(h:Kept E base a w)(c:b<=base):Kept E b a w:=⟨h.below.mono c,h.other⟩
def bJ (w:World)(base:Nat)(E:TypeId)(v:Value)(l:List UInt8):Prop:=
 ∃A cap,v= .slice A l.length cap/\l.length<=cap/\cap<=9223372036854775807/\
  ((A=none/\cap=0)\/∃g cur fr,A=some ⟨g,0,none⟩/\base<=g/\w.heap[g]?=some (.cells cur E fr)/\cur.size=cap/\cur.toList.take l.length=cb l/\(fr.2=0\/cap<=fr.1))
theorem bJ.nil (w:World)(base:Nat)(E:TypeId):bJ w base E (.slice none 0 0) []:=⟨none,0,rfl,by simp,by simp,.inl ⟨rfl,rfl⟩⟩
theorem bJ.form {w:World}{base:Nat}{E:TypeId}{v:Value}{l:List UInt8}(h:bJ w base E v l):∃A cap,v= .slice A l.length cap/\l.length<=cap/\cap<=9223372036854775807:=by
 obtain⟨A,cap,b,d,c,_⟩:=h;exact⟨A,cap,b,d,c⟩
theorem bJ.of_heap {w w':World}{base:Nat}{E:TypeId}{v:Value}{l:List UInt8}(h:bJ w base E v l)(d:∀k,base<=k->k<w.heap.size->w'.heap[k]?=w.heap[k]?):bJ w' base E v l:=by
 obtain⟨A,cap,c,i,e,b⟩:=h;refine⟨A,cap,c,i,e, ?_⟩;rcases b with b|⟨g,cur,fr,hA,hg,hh,r⟩
 ·exact .inl b
 exact .inr ⟨g,cur,fr,hA,hg,(d g hg (yl.1 hh).1).trans hh,r⟩
theorem bJ.below {w w':World}{base:Nat}{E:TypeId}{v:Value}{l:List UInt8}(h:bJ w base E v l)(b:Below w.heap.size w w'):bJ w' base E v l:=h.of_heap fun k _ c=>b.block k c
theorem bJ.alloc {w:World}{base:Nat}{E:TypeId}{v:Value}{l:List UInt8}(h:bJ w base E v l)(o:Obj):bJ (w.alloc o) base E v l:=h.below ((zq _ _).alloc (zf _) o)
theorem bJ.drew {w:World}{base:Nat}{E:TypeId}{v:Value}{l:List UInt8}(h:bJ w base E v l):bJ w.drew base E v l:=h
theorem bJ.mono {w:World}{base c:Nat}{E:TypeId}{v:Value}{l:List UInt8}(h:bJ w base E v l)(j:c<=base):bJ w c E v l:=by
 obtain⟨A,cap,d,i,e,b⟩:=h;refine⟨A,cap,d,i,e, ?_⟩;rcases b with b|⟨g,cur,fr,hA,hg,r⟩
 ·exact .inl b
 exact .inr ⟨g,cur,fr,hA,by omega,r⟩
theorem bJ.only {w w':World}{base:Nat}{E:TypeId}{v:Value}{l:List UInt8}{L:List Nat}(h:bJ w base E v l)(j:ae L w w')(i:∀g,g∈L->g<base\/∃d t b,w.heap[g]?=some (.cells d t b)/\t≠E):bJ w' base E v l:=by
 obtain⟨A,cap,k,n,m,c⟩:=h;refine⟨A,cap,k,n,m, ?_⟩;rcases c with c|⟨g,cur,b,hA,hg,hh,r⟩
 ·exact .inl c
 refine .inr ⟨g,cur,b,hA,hg,(j.block g (yl.1 hh).1 fun e=> ?_).trans hh,r⟩;rcases i g e with h5|⟨d,t,fr',h5,h6⟩
 ·omega
 rw[hh]at h5;injection h5 with h5;injection h5 with _ h7;exact h6 h7.symm
theorem bJ.own {w:World}{base:Nat}{E:TypeId}{v:Value}{l:List UInt8}(h:w.ownsRow base E 1 v l.length (cb l)):bJ w base E v l:=by
 obtain⟨p,b⟩:=h;rcases b with⟨b,n⟩|⟨g,cap,k,d,c,j,i,e,m,o⟩
 ·refine⟨none,0,by rw[b,n],by omega,by simp,.inl ⟨rfl,rfl⟩⟩
 exact⟨some ⟨g,0,none⟩,cap,d,i,by simpa[maxLen]using e,.inr ⟨g,k,(0,0),rfl,c,j,by simpa using m,by simpa using o,.inl rfl⟩⟩
theorem ej {w:World}{g i:Nat}{d:Array Value}{E:TypeId}{b:Nat×Nat}(c:w.heap[g]?=some (.cells d E b))(e:b.2=0\/i<b.1):w.frozen? ⟨g,i,none⟩=false:=by
 obtain⟨h,hi⟩:=b;simp[World.frozen?,c];simp at e;omega
theorem bJ.cells {w:World}{base:Nat}{E:TypeId}{A:Option Addr}{cap:Nat}{l:List UInt8}(h:bJ w base E (.slice A l.length cap) l):∀a,A=some a->∀j u,(cb l)[j]?=some u->w.cell? (a.add j)=some u:=by
 obtain⟨p,s,m,B,z,d⟩:=h;injection m with c _ hc;subst c;subst hc;intro a b j u hu;rcases d with⟨d,_⟩|⟨g,r,q,c,o,k,x,n,y⟩
 ·rw[d]at b;cases b
 rw[c]at b;injection b with b;subst b;have e:(⟨g,0,none⟩:Addr).add j=⟨g,j,none⟩:=by unfold Addr.add;split<;>simp_all
 have i:j<l.length:=by have:=(Zo.1 hu).1;rwa [bq]at this
 rw[e];simp only[World.cell?,k];rw[<-n,yP i]at hu;simpa using hu
theorem bJ.str {P:Program}{w:World}{src dst e:TypeId}(i:P.underlying src=some (.slice e))(d:P.underlying e=some (.int .u8))(hd:P.underlying dst=some .string){base cap:Nat}{E:TypeId}{A:Option Addr}{l:List UInt8}
 (h:bJ w base E (.slice A l.length cap) l):(convert src dst (.slice A l.length cap)).run P w= .ok (.string ⟨l.toArray⟩) w:=by
 cases A with
 |none=>
  obtain⟨q,n,k,r,p,c⟩:=h;injection k with b _ hc;subst b;subst hc;rcases c with⟨_,c⟩|⟨g,o,m,b,_⟩
  ·subst c;have j:l= []:=zw (by omega);subst j;rw[Yg w src dst e none _ 0 i d hd];rfl
  cases b
 |some a=>exact Cp w src dst e i d hd a cap l (h.cells a rfl)
theorem bJ.len {w:World}{base:Nat}{E:TypeId}{A:Option Addr}{n cap:Nat}{l:List UInt8}(h:bJ w base E (.slice A n cap) l):n=l.length/\n<=cap/\cap<=9223372036854775807:=by
 obtain⟨i,e,b,d,c,_⟩:=h;injection b with hA hn hc;subst hc;subst hn;exact⟨rfl,d,c⟩
theorem bJ.Ef {P:Program}{w:World}{src dst e:TypeId}(c:P.underlying src=some (.slice e))(d:P.underlying e=some (.int .u8))(hd:P.underlying dst=some .string){base n cap:Nat}{E:TypeId}{A:Option Addr}{l:List UInt8}
 (h:bJ w base E (.slice A n cap) l):(convert src dst (.slice A n cap)).run P w= .ok (.string ⟨l.toArray⟩) w:=by
 obtain⟨b,_⟩:=h.len;subst b;exact h.str c d hd
theorem bJ.conv (w:World)(base:Nat)(E:TypeId)(s:ByteArray)(c:base<=w.heap.size)(d:s.size<=9223372036854775807):bJ (Lib.bytesWorld w E s) base E (.slice (some ⟨w.heap.size,0,none⟩) s.size (grownCap w s.size 0 E)) s.data.toList:=by
 have b:=grownCap_ge w s.size 0 E;have e:=ZY w s.size 0 E (by simpa[maxLen]using d);have hz:(Lib.bytesCells w E s).size=grownCap w s.size 0 E:=by simp[Lib.bytesCells];omega
 refine⟨_,_,by rw[aa],by rw[aa];exact b,by simpa[maxLen]using e,.inr ⟨w.heap.size,Lib.bytesCells w E s,_,rfl,c,Lib.bytesWorld_at_new w E s,hz, ?_,.inr (by rw[hz];exact zf _)⟩⟩;simp[Lib.bytesCells,cb]
theorem iR {w:World}{g o:Nat}{c:Array Value}{E:TypeId}{b:Nat×Nat}(v:Value)(h:w.heap[g]?=some (.cells c E b)):(w.setCell ⟨g,o,none⟩ v).heap[g]?=some (.cells (c.setIfInBounds o v) E b):=by
 simp[World.setCell,ZH,h]
theorem ib {g:Nat}{E:TypeId}{i:Nat×Nat}:∀(c:List Value) (o:Nat) (w:World) (b:Array Value),w.heap[g]?=some (.cells b E i)->o+c.length<=b.size->
 ∃d,(w.setCells g o c).heap[g]?=some (.cells d E i)/\d.size=b.size/\d.toList.take (o+c.length)=b.toList.take o++c
 | [],o,w,b,h,_=>⟨b,h,rfl,by simp⟩
 |v::c,o,w,b,h,hl=>by
  simp only[zD]at hl;obtain⟨d,j,l,k⟩:=ib c (o+1) (w.setCell ⟨g,o,none⟩ v) (b.setIfInBounds o v) (iR v h) (by simp;omega);refine⟨d,j,by simpa using l, ?_⟩;rw[zD,show o+(c.length+1)=o+1+c.length from by omega,k];have e:(b.setIfInBounds o v).toList.take (o+1)=b.toList.take o++ [v]:=by
   rw[Z8,yA (by simp;omega),List.getElem_set_self,List.take_set_of_le (zf _)]
  rw[e,zI];rfl
theorem ic (w:World)(g o:Nat)(b:List Value):(w.setCells g o b).heap.size=w.heap.size:=by
 induction b generalizing w o with
 |nil=>rfl
 |cons v b ih=>rw[World.setCells,ih];simp[World.setCell]
theorem kf (w:World)(g o:Nat)(b:List Value):(w.setCells g o b).tape=w.tape:=by
 induction b generalizing w o with
 |nil=>rfl
 |cons v b ih=>rw[World.setCells,ih];rfl
theorem nU {w:World}{base g o:Nat}{E:TypeId}{i:Array Value}{h:Nat×Nat}(e:w.heap[g]?=some (.cells i E h))(m:base<=g)(c:List Value):Kept E base w (w.setCells g o c):=by
 have d:∀k,k≠g->(w.setCells g o c).heap[k]?=w.heap[k]?:=by
  intro k b;by_cases j:k<w.heap.size
  ·exact Z9 w g o c j b
  rw[xV (by rw[ic];omega),xV (by omega)]
 refine⟨⟨World.os_setCells w g o c,kf w g o c,Yy w g o c,by rw[ic];exact zf _,fun k b=>d k (by omega)⟩,fun k n b l=> ?_⟩;rw[d k (by rintro rfl;rw[e]at b;injection b with b;exact l _ _ b.symm)];exact b
theorem bJ.at_ {w:World}{base:Nat}{E:TypeId}{g n cap k:Nat}{l:List UInt8}(h:bJ w base E (.slice (some ⟨g,0,none⟩) n cap) l)(e:k<l.length):w.cell? ⟨g,k,none⟩=some (.int .u8 (l.getD k 0).toNat)/\w.frozen? ⟨g,k,none⟩=false/\base<=g/\g<w.heap.size:=by
 obtain⟨r,y,m,A,x,d⟩:=h;injection m with b hn hc;subst b;subst hc;subst hn;rcases d with⟨d,_⟩|⟨q,u,s,b,j,c,z,p,o⟩
 ·cases d
 injection b with b;injection b with b;subst b;refine⟨?_,ej c (by rcases o with h|h;exact .inl h;exact .inr (by omega)),j,(yl.1 c).1⟩;have i:(cb l)[k]?=some (.int .u8 (l.getD k 0).toNat):=by rw[Ed,zB e,zA,zB e];rfl
 rw[<-p,yP e]at i;simp only[World.cell?,c];simpa using i
theorem bJ.set {w:World}{base:Nat}{E:TypeId}{g n cap k:Nat}{l:List UInt8}(h:bJ w base E (.slice (some ⟨g,0,none⟩) n cap) l)(A:k<l.length)(b:UInt8):bJ (w.setCell ⟨g,k,none⟩ (.int .u8 b.toNat)) base E (.slice (some ⟨g,0,none⟩) n cap) (l.set k b):=by
 obtain⟨x,z,o,s,m,d⟩:=h;injection o with c hn hc;subst c;subst hc;subst hn;rcases d with⟨d,_⟩|⟨u,y,j,c,e,i,p,r,q⟩
 ·cases d
 injection c with c;injection c with c;subst c;refine⟨_,cap,by rw[Zu],by rw[Zu];exact s,m,.inr ⟨g,_,j,rfl,e,iR _ i,by simpa using p, ?_,q⟩⟩;rw[Zu,Z8,List.take_set,r];simp[cb,List.map_set]
theorem Kept.store {E:TypeId}{base g k:Nat}{a w:World}{e:Array Value}{d:Nat×Nat}(h:Kept E base a w)(c:w.heap[g]?=some (.cells e E d))(b:base<=g)(v:Value):Kept E base a (w.setCell ⟨g,k,none⟩ v):=
 h.trans (nU (o:=k) c b [v])
theorem bJ.block {w:World}{base:Nat}{E:TypeId}{g n cap:Nat}{l:List UInt8}(h:bJ w base E (.slice (some ⟨g,0,none⟩) n cap) l):∃e c,w.heap[g]?=some (.cells e E c)/\base<=g:=by
 obtain⟨o,p,k,x,s,d⟩:=h;injection k with b _ hc;subst b;rcases d with⟨d,_⟩|⟨m,e,c,b,i,j,q,u,r⟩
 ·cases d
 injection b with b;injection b with b;subst b;exact⟨e,c,j,i⟩
theorem ug (n:Nat):(madeCells (Value.int .u8 0).cells (n*1)).toList=cb (List.replicate n 0):=by
 have b:(Value.int .u8 0).cells= #[.int .u8 0]:=rfl;rw[b,Ze];apply List.ext_getElem
 ·simp[madeCells,cb]
 intro i d c;simp[madeCells,cb,Nat.mod_one]
theorem bJ.append {P:Program}{w:World}{base:Nat}{E:TypeId}{v:Value}{l:List UInt8}(h:bJ w base E v l)(t d ty:TypeId)(i:TypeInfo)(u:P.underlying t=some (.slice E))(hi:P.info? E=some i)(hz:i.zero=some (.int .u8 0))(k:i.size=1)(O:i.bytes=1)
 (e:Value) (m:List UInt8) (K:Src P 1 d e m.length (cb m) w) (F:base<=w.heap.size) (Y:l.length+m.length<=140737488355328):
 ∃G w',(Builtin.append_ #[t,d] ty #[v,e]).run P w= .ok G w'/\bJ w' base E G (l++m)/\Kept E base w w':=by
 obtain⟨A,cap,rfl,S,I,D⟩:=h;have C:Src P i.size d e m.length (cb m) w:=by rw[k];exact K
 by_cases H:l.length+m.length<=cap
 ·rcases D with⟨b,y⟩|⟨g,o,B,b,n,c,s,x,p⟩
  ·subst b;subst y;have r:l= []:=zw (by omega);have N:m= []:=zw (by omega);subst r;subst N;exact⟨_,w,Go.run_append_nothing w t d ty E i u hi none 0 0 (zf _) e C,bJ.nil w base E,Kept.refl E base w⟩
  subst b;have q:=run_append_room_src (P:=P) w t d ty E i u hi g 0 l.length cap e m.length (cb m) C H
   (by
    intro j z;rw[bq]at z;have:0+l.length*i.size+j<o.size:=by rw[k,s];omega
    simp only[World.cell?,c];rw[Ya this];rfl)
   (by
    intro j z;rw[bq]at z;exact ej c (by rw[k];rcases p with h|h;exact .inl h;exact .inr (by omega)))
  rw[k,Ze,zT]at q;obtain⟨W,L,Z,J⟩:=ib (cb m) l.length w o c (by rw[bq];omega);refine⟨_,_,q,⟨_,cap,by rw[zp],by rw[zp];exact H,I,.inr ⟨g,W,B,rfl,n,L,by omega, ?_,p⟩⟩,nU c n _⟩;rw[zp,fV];rw[bq,x]at J;exact J
 have R:(Builtin.firstCells i.size l.length (.slice A l.length cap)).run P w.drew= .ok (cb l).toArray w.drew:=by
  rcases D with⟨b,y⟩|⟨g,o,B,b,n,c,s,x,p⟩
  ·subst b;subst y;have r:l= []:=zw (by omega);subst r;exact run_firstCells_none w.drew i.size 0 0 0
  have U:=bJ.cells (w:=w) (base:=base) (E:=E) (A:=A) (cap:=cap) (l:=l) ⟨A,cap,rfl,S,I,.inr ⟨g,o,B,b,n,c,s,x,p⟩⟩ ⟨g,0,none⟩ b;subst b;exact run_firstCells_some w.drew i.size l.length _ l.length cap (cb l) (by rw[bq,k,Ze]) U
 have X:Builtin.nextslicecap (l.length+m.length) cap*i.bytes<=281474976710656:=by
  rw[O];exact growslice_fits (by omega) (by omega)
 have q:=run_append_grow_src (P:=P) w t d ty E i (.int .u8 0) u hi hz A l.length cap (cb l) R e m.length (cb m) C (by omega) (by omega) X;have M:=grownCap_ge w (l.length+m.length) cap E;have g2:=ZY w (l.length+m.length) cap E (by simp[maxLen];omega);refine⟨_,_,q,⟨_,_,by rw[zp],by rw[zp];exact M,by simpa[maxLen]using g2,.inr ⟨w.heap.size,_,(0,0),rfl,F,yW w.drew _, ?_, ?_,.inl rfl⟩⟩,((Kept.refl E base w).drew.alloc (by simpa using F) _)⟩
 ·simp only[Array.size_append,Yf,zp,bq,size_zeroCells];have:(Value.int .u8 0).cells.size=1:=rfl;rw[this];omega
 rw[Array.toList_append,zp,ye (by simp[bq]),fV];exact zC (by simp[bq])
theorem Kept.Jx {E:TypeId}{base:Nat}{w w':World}(h:w.grownBy w' none)(c:base<=w.heap.size):Kept E base w w':=
 ⟨⟨h.os,h.tape,h.output,h.size,fun k b=>h.block k (by omega) (by simp)⟩,fun k o b _=>(h.block k (yl.1 b).1 (by simp)).trans b⟩
theorem aN {P:Program}{w:World}{ops:Array Oper}{rest:List Oper}{o:Oper}{a:Act}{Q:Exit->Act->World->Prop}(C:o.guard=none)(s x:Operand)(t b:TypeId)
 (q:o.op= .call {callee:= .builtin .append,args:= #[s,x],argTypes:= #[t,b]}) (base:Nat) (E:TypeId) (i:TypeInfo) (y:P.underlying t=some (.slice E)) (hi:P.info? E=some i) (hz:i.zero=some (.int .u8 0)) (G:i.size=1) (B:i.bytes=1)
 {v:Value} {l:List UInt8} (p:a.eval s=v) (h:bJ w base E v l) (d:Value) (m:List UInt8) (hx:a.eval x=d) (u:Src P 1 b d m.length (cb m) w) (z:base<=w.heap.size) (A:l.length+m.length<=140737488355328)
 (r:∀(c:Option Addr) (j e:Nat) w',bJ w' base E (.slice c j e) (l++m)->Kept E base w w'->wpList P ops Q rest (a.put o.dst (.slice c j e)) w'):wpList P ops Q (o::rest) a w:=by
 refine wpList_plain C fun K F=> ?_
 obtain⟨I,w',H,k,D⟩:=h.append (P:=P) t b o.type i y hi hz G B d m u z A;obtain⟨c,e,n,_⟩:=k.form;unfold Oper.wp;simp[execOp,q,resolve,invoke,builtin,p,hx,H,Result.andThen];subst n;exact F _ _ (r _ _ _ w' k D)
theorem jR {P:Program}{d e:TypeId}(i:P.underlying d=some (.slice e))(w:World)(E:TypeId)(b:Array Value)(m:List UInt8)(c:Nat)(h:b.toList=cb m):Src P 1 d (.slice (some ⟨w.heap.size,0,none⟩) m.length c) m.length (cb m) (w.alloc (.cells b E)):=
 Src.ofSlice _ i _ _ _ _ (by rw[bq,Ze]) (fun j u hu=>ZS (yW w (.cells b E)) j u (by rw[<-h]at hu;simpa using hu)) (uf m)
theorem iS {P:Program}{b:TypeId}(c:P.underlying b=some .string)(w:World)(s:ByteArray):Src P 1 b (.string s) s.data.toList.length (cb s.data.toList) w:=by
 have:=Src.ofString (P:=P) w c s;rw[aa];exact this
theorem Jy {P:Program}{d j:TypeId}(e:P.underlying d=some (.slice j)){w:World}{base:Nat}{E:TypeId}{v:Value}{m:List UInt8}(h:bJ w base E v m):Src P 1 d v m.length (cb m) w:=by
 obtain⟨A,cap,rfl,r,p⟩:=h.form;cases A with
 |none=>
  obtain⟨q,n,k,_,_,c⟩:=h;injection k with b _ hc;subst b;subst hc;rcases c with⟨_,c⟩|⟨g,o,l,b,_⟩
  ·subst c;have i:m= []:=zw (by omega);subst i;exact Src.ofNil w e 0
  cases b
 |some ad=>exact Src.ofSlice w e ad _ _ _ (by rw[bq,Ze]) (h.cells ad rfl) (uf m)
theorem ox {a:Int}{x:Nat}(h:a=x)(hx:x<256):(#[Value.int .u8 a]:Array Value).toList=cb [ub x]:=by
 subst h;simp[cb,bg x hx]
theorem Oc {a b:Int}{x y:Nat}(h:a=x)(hx:x<256)(d:b=y)(c:y<256):(#[Value.int .u8 a,.int .u8 b]:Array Value).toList=cb [ub x,ub y]:=by
 subst h;subst d;simp[cb,bg x hx,bg y c]
theorem tw {P:Program}{d h:TypeId}(j:P.underlying d=some (.slice h))(w:World)(E:TypeId)(b:Array Value)(m:List UInt8)(c g:Nat)(e:g=w.heap.size)(i:b.toList=cb m):Src P 1 d (.slice (some ⟨g,0,none⟩) m.length c) m.length (cb m) (w.alloc (.cells b E)):=by
 subst e;exact jR j w E b m c i
theorem bJ.dk {w:World}{base:Nat}{E:TypeId}{v:Value}{l:List UInt8}(h:bJ w base E v l):∃A n cap,v= .slice A n cap/\Hid (n=l.length)/\n<=cap/\cap<=9223372036854775807:=by
 obtain⟨A,cap,b,d,c⟩:=h.form;exact⟨A,_,cap,b,za rfl,d,c⟩
theorem af.kept {E:TypeId}{base g:Nat}{w w':World}{t:TypeId}{b:Array Value}(h:af w g t b)(d:Kept E base w w')(i:t≠E):af w' g t b:=d.other g _ h (by
 intro c f e;injection e with _ e2;exact i e2)
theorem af.ah {w w':World}{g B:Nat}{t:TypeId}{b:Array Value}(h:af w g t b)(c:Below B w w')(d:g<B):af w' g t b:=(c.block g d).trans h
theorem a8 {w:World}{g:Nat}{t:TypeId}{a b c:Value}(h:af w g t #[a,b,c]):w.cell? ⟨g,0,none⟩=some a/\w.cell? ⟨g,1,none⟩=some b/\w.cell? ⟨g,2,none⟩=some c/\w.frozen? ⟨g,0,none⟩=false/\w.frozen? ⟨g,1,none⟩=false/\w.frozen? ⟨g,2,none⟩=false:=
 ⟨h.cell 0,h.cell 1,h.cell 2,h.frozen 0,h.frozen 1,h.frozen 2⟩
structure l6 (w w':World)(v v':Value):Prop where
 grown:w.grownBy w' v.ownBlock
 own:v'.ownBlock=v.ownBlock\/∃g,v'.ownBlock=some g/\w.heap.size<=g
theorem l6.refl (w:World)(v:Value):l6 w w v v:=⟨World.grownBy.refl _ _,.inl rfl⟩
theorem l6.size {w w':World}{v v':Value}(h:l6 w w' v v'):w.heap.size<=w'.heap.size:=h.grown.size
theorem l6.trans {a b c:World}{v i l:Value}(h:l6 a b v i)(k:l6 b c i l):l6 a c v l:=by
 refine⟨h.grown.andThen k.grown fun j d=> ?_, ?_⟩
 ·rcases h.own with e|⟨g,e,hg⟩
  ·exact .inr (by rw[<-e,d])
  rw[e]at d;injection d with d;exact .inl (by omega)
 rcases k.own with e|⟨g,e,hg⟩
 ·rcases h.own with e2|⟨g2,e2,oW⟩
  ·exact .inl (e.trans e2)
  exact .inr ⟨g2,e.trans e2,oW⟩
 exact .inr ⟨g,e,by have:=h.size;omega⟩
theorem dm {a b:World}(h:Below a.heap.size a b):a.grownBy b none:=⟨h.os,h.tape,h.output,h.size,fun k c _=>h.block k c⟩
theorem jS {a b:World}(h:a.grownBy b none)(r:Option Nat):a.grownBy b r:=⟨h.os,h.tape,h.output,h.size,fun k c _=>h.block k c (by simp)⟩
theorem l6.ahead {a b c:World}{v d:Value}(h:Below a.heap.size a b)(k:l6 b c v d):l6 a c v d:=(show l6 a b v v from⟨jS (dm h) _,.inl rfl⟩).trans k
theorem l6.behind {a b c:World}{v d:Value}(h:l6 a b v d)(k:Below b.heap.size b c):l6 a c v d:=h.trans (show l6 b c d d from⟨jS (dm k) _,.inl rfl⟩)
theorem l6.below {B:Nat}{a b c:World}{v d:Value}(h:Below B a b)(k:l6 b c v d)(i:B<=b.heap.size)(e:∀g,v.ownBlock=some g->B<=g):Below B a c:=h.grown k.grown i e
theorem l6.block {a b:World}{v c:Value}(h:l6 a b v c){k:Nat}(d:k<a.heap.size)(i:v.ownBlock≠some k):b.heap[k]?=a.heap[k]?:=h.grown.block k d (fun e=>i e.symm)
theorem bJ.ge {w:World}{base:Nat}{E:TypeId}{v:Value}{l:List UInt8}(h:bJ w base E v l):∀g,v.ownBlock=some g->base<=g/\g<w.heap.size/\∃d c,w.heap[g]?=some (.cells d E c):=by
 obtain⟨A,cap,rfl,o,n,m⟩:=h;intro g e;rcases m with⟨b,_⟩|⟨j,d,c,b,k,i,_⟩
 ·subst b;cases e
 subst b;have:j=g:=by simpa[Value.ownBlock]using e
 subst this;exact⟨k,y9 i,d,c,i⟩
theorem bJ.dX {w:World}{base:Nat}{E t:TypeId}{v:Value}{l:List UInt8}{g:Nat}{c:Array Value}{i:Nat×Nat}(h:bJ w base E v l)(d:w.heap[g]?=some (.cells c t i))(j:t≠E):v.ownBlock≠some g:=by
 intro e;obtain⟨_,_,m,k,b⟩:=h.ge g e;rw[d]at b;injection b with b;injection b with _ b;exact j b
theorem bJ.ah {w w':World}{base:Nat}{E:TypeId}{v:Value}{l:List UInt8}(h:bJ w base E v l)(c:∀k,k<w.heap.size->v.ownBlock=some k->w'.heap[k]?=w.heap[k]?):bJ w' base E v l:=by
 obtain⟨A,cap,rfl,e,d,b⟩:=h;refine⟨A,cap,rfl,e,d, ?_⟩;rcases b with b|⟨g,cur,fr,hA,hg,hh,r⟩
 ·exact .inl b
 exact .inr ⟨g,cur,fr,hA,hg,(c g (y9 hh) (by subst hA;rfl)).trans hh,r⟩
theorem af.Sr {w w':World}{g:Nat}{t:TypeId}{b:Array Value}{v c:Value}(h:af w g t b)(d:l6 w w' v c)(e:v.ownBlock≠some g):af w' g t b:=(d.block h.lt e).trans h
theorem bJ.Ss {P:Program}{w:World}{base:Nat}{E:TypeId}{v:Value}{l:List UInt8}(h:bJ w base E v l)(t c ty:TypeId)(i:TypeInfo)(y:P.underlying t=some (.slice E))(hi:P.info? E=some i)(hz:i.zero=some (.int .u8 0))(o:i.size=1)(U:i.bytes=1)
 (d:Value) (m:List UInt8) (L:Src P 1 c d m.length (cb m) w) (N:base<=w.heap.size) (aa:l.length+m.length<=140737488355328):
 ∃C w',(Builtin.append_ #[t,c] ty #[v,d]).run P w= .ok C w'/\bJ w' base E C (l++m)/\l6 w w' v C:=by
 obtain⟨A,cap,rfl,X,J,H⟩:=h;have G:Src P i.size c d m.length (cb m) w:=by rw[o];exact L
 by_cases I:l.length+m.length<=cap
 ·rcases H with⟨b,B⟩|⟨g,p,F,b,s,n,x,z,q⟩
  ·subst b;subst B;have u:l= []:=zw (by omega);have R:m= []:=zw (by omega);subst u;subst R;exact⟨_,w,Go.run_append_nothing w t c ty E i y hi none 0 0 (zf _) d G,bJ.nil w base E,l6.refl _ _⟩
  subst b;have r:=run_append_room_src (P:=P) w t c ty E i y hi g 0 l.length cap d m.length (cb m) G I
   (by
    intro j D;rw[bq]at D;have:0+l.length*i.size+j<p.size:=by rw[o,x];omega
    simp only[World.cell?,n];rw[Ya this];rfl)
   (by
    intro j D;rw[bq]at D;exact ej n (by rw[o];rcases q with h|h;exact .inl h;exact .inr (by omega)))
  rw[o,Ze,zT]at r;obtain⟨Z,M,c2,K⟩:=ib (cb m) l.length w p n (by rw[bq];omega);refine⟨_,_,r,⟨_,cap,by rw[zp],by rw[zp];exact I,J,.inr ⟨g,Z,F,rfl,s,M,by omega, ?_,q⟩⟩,⟨World.os_setCells _ _ _ _,kf _ _ _ _,Yy _ _ _ _,by rw[ic];exact zf _,fun k S cd=>Z9 w g l.length (cb m) S (fun e=>cd (by subst e;rfl))⟩,.inl rfl⟩;rw[zp,fV];rw[bq,z]at K;exact K
 have W:(Builtin.firstCells i.size l.length (.slice A l.length cap)).run P w.drew= .ok (cb l).toArray w.drew:=by
  rcases H with⟨b,B⟩|⟨g,p,F,b,s,n,x,z,q⟩
  ·subst b;subst B;have u:l= []:=zw (by omega);subst u;exact run_firstCells_none w.drew i.size 0 0 0
  have Y:=bJ.cells (w:=w) (base:=base) (E:=E) (A:=A) (cap:=cap) (l:=l) ⟨A,cap,rfl,X,J,.inr ⟨g,p,F,b,s,n,x,z,q⟩⟩ ⟨g,0,none⟩ b;subst b;exact run_firstCells_some w.drew i.size l.length _ l.length cap (cb l) (by rw[bq,o,Ze]) Y
 have WU:Builtin.nextslicecap (l.length+m.length) cap*i.bytes<=281474976710656:=by
  rw[U];exact growslice_fits (by omega) (by omega)
 have r:=run_append_grow_src (P:=P) w t c ty E i (.int .u8 0) y hi hz A l.length cap (cb l) W d m.length (cb m) G (by omega) (by omega) WU;have O:=grownCap_ge w (l.length+m.length) cap E;have g2:=ZY w (l.length+m.length) cap E (by simp[maxLen];omega);refine⟨_,_,r,⟨_,_,by rw[zp],by rw[zp];exact O,by simpa[maxLen]using g2,.inr ⟨w.heap.size,_,(0,0),rfl,N,yW w.drew _, ?_, ?_,.inl rfl⟩⟩,jS (dm ((zq w.heap.size w).drew.alloc (by simp) _)) _,.inr ⟨w.heap.size,rfl,zf _⟩⟩
 ·simp only[Array.size_append,Yf,zp,bq,size_zeroCells];have:(Value.int .u8 0).cells.size=1:=rfl;rw[this];omega
 rw[Array.toList_append,zp,ye (by simp[bq]),fV];exact zC (by simp[bq])
theorem mr {P:Program}{w:World}{o:Oper}{a:Act}{K:Act->World->Prop}{Q:Exit->Act->World->Prop}(s x:Operand)(t d:TypeId)
 (q:o.op= .call {callee:= .builtin .append,args:= #[s,x],argTypes:= #[t,d]}) (base:Nat) (E:TypeId) (i:TypeInfo) (y:P.underlying t=some (.slice E)) (hi:P.info? E=some i) (hz:i.zero=some (.int .u8 0)) (D:i.size=1) (B:i.bytes=1)
 {v:Value} {l:List UInt8} (p:a.eval s=v) (h:bJ w base E v l) (e:Value) (m:List UInt8) (hx:a.eval x=e) (u:Src P 1 d e m.length (cb m) w) (z:base<=w.heap.size) (A:l.length+m.length<=140737488355328)
 (r:∀(b:Option Addr) (j c:Nat) w',bJ w' base E (.slice b j c) (l++m)->l6 w w' v (.slice b j c)->K (a.put o.dst (.slice b j c)) w'):Oper.wp P o a w K Q:=by
 obtain⟨G,w',F,k,C⟩:=h.Ss (P:=P) t d o.type i y hi hz D B e m u z A;obtain⟨b,c,n,_⟩:=k.form;unfold Oper.wp;simp[execOp,q,resolve,invoke,builtin,p,hx,F,Result.andThen];subst n;exact r _ _ _ w' k C
theorem cl {P:Program}{w:World}{ops:Array Oper}{rest:List Oper}{o:Oper}{a:Act}{Q:Exit->Act->World->Prop}(A:o.guard=none)(s x:Operand)(t e:TypeId)
 (n:o.op= .call {callee:= .builtin .append,args:= #[s,x],argTypes:= #[t,e]}) (base:Nat) (E:TypeId) (i:TypeInfo) (r:P.underlying t=some (.slice E)) (hi:P.info? E=some i) (hz:i.zero=some (.int .u8 0)) (F:i.size=1) (z:i.bytes=1)
 {v:Value} {l:List UInt8} (k:a.eval s=v) (h:bJ w base E v l) (j:Value) (m:List UInt8) (hx:a.eval x=j) (q:Src P 1 e j m.length (cb m) w) (u:base<=w.heap.size) (y:l.length+m.length<=140737488355328)
 (p:∀(b:Option Addr) (c d:Nat) w',bJ w' base E (.slice b c d) (l++m)->l6 w w' v (.slice b c d)->wpList P ops Q rest (a.put o.dst (.slice b c d)) w'):wpList P ops Q (o::rest) a w:=
 wpList_plain A fun _ C=>mr s x t e n base E i r hi hz F z k h j m hx q u y fun b c d w' D B=>C _ _ (p b c d w' D B)
theorem qP {P:Program}{w:World}{ops:Array Oper}{o:Oper}{a:Act}{K:Act->World->Prop}{Q:Exit->Act->World->Prop}{y:Prop}(C:o.guard=none)(s x:Operand)(t b:TypeId)
 (n:o.op= .call {callee:= .builtin .append,args:= #[s,x],argTypes:= #[t,b]}) (base:Nat) (E:TypeId) (i:TypeInfo) (r:P.underlying t=some (.slice E)) (hi:P.info? E=some i) (hz:i.zero=some (.int .u8 0)) (D:i.size=1) (B:i.bytes=1)
 {v:Value} {l:List UInt8} (k:a.eval s=v) (h:bJ w base E v l) (d:Value) (m:List UInt8) (hx:a.eval x=d) (q:Src P 1 b d m.length (cb m) w) (u:base<=w.heap.size) (A:l.length+m.length<=140737488355328)
 (p:∀(c:Option Addr) (e j:Nat) w',bJ w' base E (.slice c e j) (l++m)->l6 w w' v (.slice c e j)->K (a.put o.dst (.slice c e j)) w'):
 if Region.wanted o (yielded ops a.tmps)=true then Oper.wp P o a w K Q else y:=by
 have z:Region.wanted o (yielded ops a.tmps)=true:=by simp[Region.wanted,C]
 rw[zl z];exact mr s x t b n base E i r hi hz D B k h d m hx q u A p
theorem oy {s:ByteArray}{k:Nat}{b:UInt8}(c:s.data.toList[k]?=some b):∃h:k<s.size,s[k]=b:=by
 have h:k<s.size:=by
  have:=(Zo.1 c).1;simpa using this
 refine⟨h, ?_⟩;rw[gq s k h]at c;injection c
theorem kF {s:ByteArray}{size f k b c:Nat}{out d:List UInt8}(h:k<s.size)(e:s[k].toNat=b)(i:bT s size k b out=(0,c,d)):gK s size (f+1) k out=gK s size f c d:=by
 rw[gK,Ym h,e,i,zl rfl]
theorem lt_of_cell {w:World}{b o:Nat}{v:Value}(h:w.cell? ⟨b,o,none⟩=some v):b<w.heap.size:=by
 rcases Zl b w.heap.size with h'|h'
 ·exact h'
 simp[World.cell?,xV h']at h
mutual
def bZ (w:World)(B:Nat):It->Value->Value->Value->Prop
 | .mk t l s,c0,c1,c2=>c0= .string t/\c1= .bool l/\t.size<=9223372036854775807/\s.length<=9223372036854775807/\∃A cap,c2= .slice A s.length cap/\s.length<=cap/\cap<=9223372036854775807/\bU w B s A 0
def bU (w:World)(B:Nat):List It->Option Addr->Nat->Prop
 | [],_,_=>True
 |x::xs,A,i=>(∃b o c0 c1 c2,A=some ⟨b,o,none⟩/\b<B/\w.cell? ⟨b,o+i*3,none⟩=some c0/\w.cell? ⟨b,o+i*3+1,none⟩=some c1/\w.cell? ⟨b,o+i*3+2,none⟩=some c2/\bZ w B x c0 c1 c2)/\bU w B xs A (i+1)
end
theorem bU.at_ {w:World}{B:Nat}{A:Option Addr}:∀{s:List It} {i:Nat},bU w B s A i->∀(j:Nat) (h:j<s.length),∃b o c d e,A=some ⟨b,o,none⟩/\b<B/\w.cell? ⟨b,o+(i+j)*3,none⟩=some c/\w.cell? ⟨b,o+(i+j)*3+1,none⟩=some d/\w.cell? ⟨b,o+(i+j)*3+2,none⟩=some e/\bZ w B s[j] c d e
 | [],_,_,j,h=>by simp at h
 |x::xs,i,hi,0,_=>by simpa[bU]using hi.1
 |x::xs,i,hi,j+1,h=>by
  have:=bU.at_ hi.2 j (by simpa using h);rw[show i+1+j=i+(j+1)from by omega]at this;simpa using this
theorem bU.Eg {w:World}{B:Nat}{A:Option Addr}:∀{s:List It} {i:Nat},(∀(j:Nat) (h:j<s.length),∃b o c d e,A=some ⟨b,o,none⟩/\b<B/\w.cell? ⟨b,o+(i+j)*3,none⟩=some c/\w.cell? ⟨b,o+(i+j)*3+1,none⟩=some d/\w.cell? ⟨b,o+(i+j)*3+2,none⟩=some e/\bZ w B s[j] c d e)->bU w B s A i
 | [],_,_=>by simp[bU]
 |x::xs,i,h=>by
  refine⟨h 0 (ZI _),bU.Eg fun j k=> ?_⟩;have:=h (j+1) (by simpa using k);rw[show i+(j+1)=i+1+j from by omega]at this;simpa using this
theorem bZ.open_ {w:World}{B:Nat}{x:It}{d b c:Value}(h:bZ w B x d b c):∃A cap,d= .string x.text/\b= .bool x.list/\c= .slice A x.sub.length cap/\x.text.size<=9223372036854775807/\x.sub.length<=cap/\cap<=9223372036854775807/\bU w B x.sub A 0:=by
 cases x with
 |mk t l s=>
  obtain⟨i,k,n,p,A,cap,o,j,e,m⟩:=h;exact⟨A,cap,i,k,o,n,j,e,m⟩
theorem bZ.ah {w w':World}{B m:Nat}(J:B<=m)(e:∀p:Addr,p.block<B->w'.cell? p=w.cell? p):∀(x:It) {i c k:Value},bZ w B x i c k->bZ w' m x i c k:=by
 intro x;induction x using It.ind with
 |h t l s ih=>
  intro i c k h;obtain⟨D,I,u,r,A,cap,C,G,F,E⟩:=h;refine⟨D,I,u,r,A,cap,C,G,F,bU.Eg fun j n=> ?_⟩;obtain⟨b,o,d0,d1,d2,y,d,z,H,q,hi⟩:=E.at_ j n;exact⟨b,o,d0,d1,d2,y,by omega,(e _ d).trans z,(e _ d).trans H,(e _ d).trans q,ih _ (zM n) hi⟩
theorem bZ.below {w w':World}{B:Nat}{x:It}{b c d:Value}(h:bZ w B x b c d)(e:Below B w w'):bZ w' B x b c d:=bZ.ah (zf _) (fun _ i=>e.cell i) x h
theorem bZ.mono {w:World}{B e:Nat}{x:It}{b c d:Value}(h:bZ w B x b c d)(i:B<=e):bZ w e x b c d:=bZ.ah i (fun _ _=>rfl) x h
theorem bU.below {w w':World}{B i:Nat}{s:List It}{A:Option Addr}(h:bU w B s A i)(c:Below B w w'):bU w' B s A i:=bU.Eg fun j m=>by
 obtain⟨b,o,d0,d1,d2,e,d,k,l,n,hi⟩:=h.at_ j m;exact⟨b,o,d0,d1,d2,e,d,(c.cell d).trans k,(c.cell d).trans l,(c.cell d).trans n,hi.below c⟩
def lj (w:World)(B:Nat):List It->List Value->Prop
 | [],cs=>cs= []
 |x::xs,cs=>∃c0 c1 c2 ds,cs=c0::c1::c2::ds/\bZ w B x c0 c1 c2/\lj w B xs ds
theorem lj.length {w:World}{B:Nat}:∀{s:List It} {b:List Value},lj w B s b->b.length=s.length*3
 | [],b,h=>by simp[lj]at h;simp[h]
 |x::xs,b,h=>by
  obtain⟨d,e,i,j,rfl,_,c⟩:=h;have:=c.length;simp only[zD,this];omega
theorem lj.ah {w w':World}{B d:Nat}(c:B<=d)(e:∀p:Addr,p.block<B->w'.cell? p=w.cell? p):∀{s:List It} {b:List Value},lj w B s b->lj w' d s b
 | [],b,h=>h
 |x::xs,b,h=>by
  obtain⟨i,j,k,l,rfl,m,n⟩:=h;exact⟨i,j,k,l,rfl,bZ.ah c e x m,n.ah c e⟩
theorem bU.cells {w:World}{B:Nat}{b o:Nat}:∀{s:List It} {i:Nat},bU w B s (some ⟨b,o,none⟩) i->∃d,lj w B s d/\∀j u,d[j]?=some u->w.cell? ⟨b,o+i*3+j,none⟩=some u
 | [],i,_=>⟨[],rfl,by simp⟩
 |x::xs,i,h=>by
  obtain⟨⟨z,A,k,e,l,c,_,p,q,r,hi⟩,y⟩:=h;injection c with c;injection c with hb ho;subst hb;subst ho;obtain⟨m,hd,n⟩:=y.cells;refine⟨k::e::l::m,⟨k,e,l,m,rfl,hi,hd⟩,fun j u hu=> ?_⟩;match j,hu with
  |0,hu=>simp at hu;subst hu;exact p
  |1,hu=>simp at hu;subst hu;exact q
  |2,hu=>simp at hu;subst hu;exact r
  |j+3,hu=>
   have:=n j u (by simpa using hu);rw[show o+i*3+(j+3)=o+(i+1)*3+j from by omega];exact this
theorem bU.eL {w:World}{B:Nat}{b o:Nat}(e:b<B):∀{s:List It} {i:Nat} {c:List Value},lj w B s c->(∀j u,c[j]?=some u->w.cell? ⟨b,o+i*3+j,none⟩=some u)->bU w B s (some ⟨b,o,none⟩) i
 | [],_,_,_,_=>trivial
 |x::xs,i,c,h,hc=>by
  obtain⟨d,k,l,p,rfl,m,n⟩:=h;refine⟨⟨b,o,d,k,l,rfl,e,by simpa using hc 0 d (by simp),hc 1 k (by simp),hc 2 l (by simp),m⟩,bU.eL e n fun j u hu=> ?_⟩;have:=hc (j+3) u (by simpa using hu);rw[show o+(i+1)*3+j=o+i*3+(j+3)from by omega];exact this
theorem Bg (n:Nat):(madeCells #[Value.int .u8 0] n).toList=cb (List.replicate n 0):=by
 have:=ug n;rw[Ze]at this;exact this
theorem Lp (n:Nat):(madeCells #[Value.int .u8 0] n).size=n:=by
 have:=xC List.length (Bg n);rw[bq,xG]at this;simpa using this
theorem lN {P:Program}(w:World){ops:Array Oper}{rest:List Oper}{o:Oper}{a:Act}{Q:Exit->Act->World->Prop}
 (r:o.guard=none) (l c:Operand) (t:TypeId) (s:o.op=Op.makeSlice t l c)
 (base:Nat) (e:TypeId) (i:TypeInfo) (C:P.underlying t=some (.slice e)) (hi:P.info? e=some i) (hz:i.zero=some (.int .u8 0)) (q:i.size=1) (A:i.bytes=1)
 (j k:IntKind) (m n:Nat) (z:a.eval l= .int j (m:Int)) (u:a.eval c= .int k (n:Int)) (b:m<=n) (D:n<=281474976710656) (d:base<=w.heap.size)
 (y:∀w',bJ w' base e (.slice (some ⟨w.heap.size,0,none⟩) m n) (List.replicate m 0)->Kept e base w w'->Below w.heap.size w w'->wpList P ops Q rest (a.put o.dst (.slice (some ⟨w.heap.size,0,none⟩) m n)) w'):
 wpList P ops Q (o::rest) a w:=by
 refine wpList_plain r fun K x=> ?_
 have h:=run_make (P:=P) w t e i (.int .u8 0) C hi hz j k m n (by omega) (by omega) (by rw[A];omega) (by omega);simp only[Int.toNat_natCast,q,Ze]at h;have B:bJ (w.alloc (.cells (madeCells #[Value.int .u8 0] n) e)) base e (.slice (some ⟨w.heap.size,0,none⟩) m n) (List.replicate m 0):=by
  refine⟨some ⟨w.heap.size,0,none⟩,n,by rw[xG],by rw[xG];exact b,by omega,.inr ⟨w.heap.size,madeCells #[Value.int .u8 0] n,(0,0),rfl,d,yW w _,Lp n, ?_,.inl rfl⟩⟩;rw[xG,Bg,<-Sp,List.take_replicate,yK b]
 have p:Below w.heap.size w (w.alloc (.cells (madeCells #[Value.int .u8 0] n) e)):=(zq _ w).alloc (zf _) _;unfold Oper.wp;simp[execOp,s,z,u,h,Result.andThen];exact x _ _ (y _ B (Kept.ag p (zf _) d) p)
theorem af.at_ {c:World}{k:Nat}{t:TypeId}{b:Array Value}(hz:c.heap.size=k):af (c.alloc (.cells b t)) k t b:=hz▸af.new c t b
