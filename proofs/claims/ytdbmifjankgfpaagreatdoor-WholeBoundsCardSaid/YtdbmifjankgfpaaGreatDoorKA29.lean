/- strings.Builder with a Buf in it: copyCheck. -/
import Derived.Test.YtdbmifjankgfpaaGreatDoorProg
import Derived.Test.YtdbmifjankgfpaaGreatDoorKA1
import Derived.Shelf.Strings.Builder1
import Derived.WalkSpells
import Derived.RangeFuncOwn
import Derived.Shelf.RegionOpen
set_option linter.all false
set_option maxRecDepth 100000
set_option maxHeartbeats 1000000
open Go.Proofs.Tryz
namespace Go.Proofs.YtdbmifjankgfpaaGreatDoor
open Go.RowKit
variable {w w':World}{E t:TypeId}{base g B:Nat}
def zu:=@underlying31
def zP:=@underlying9
def yI:=@info_parts
theorem I8 :(prog.info? 5).map (fun i=>(i.zero,i.size,i.bytes))=some (some (.int .u8 0),1,1):=by kernel_rfl
theorem QE :(prog.info? 199).map (·.size)=some 2:=by kernel_rfl
theorem QF :liesAt prog (prog).depth 199 (2/(prog).cellsOf 199) 0 199 1=true:=by kernel_rfl
theorem FK :(prog).cellsOf 5=1:=by kernel_rfl
theorem af.shape {b:Array Value}(h:af w g t b):w.shape? g=some (t,b.size):=by
 unfold af at h;simp[World.shape?,h]
def DZ (w:World)(base b:Nat)(l:List UInt8):Prop:=b<base/\∃p v,af w b 199 #[p,v]/\(p= .pointer none\/p= .pointer (some ⟨b,0,none⟩))/\bF w base 5 v l/\(l= []->v= .slice none 0 0)
theorem FL (b:Nat)(w:World)(p v:Value)(h:af w b 199 #[p,v])(n:p= .pointer none\/p= .pointer (some ⟨b,0,none⟩)):
 Calls prog 214 #[.pointer (some ⟨b,0,none⟩)] w fun e w'=>e= .returned (.tuple #[])/\(w'=w\/w'=w.setCell ⟨b,0,none⟩ (.pointer (some ⟨b,0,none⟩)))/\af w' b 199 #[.pointer (some ⟨b,0,none⟩),v]:=by
 obtain⟨j,d,m⟩:=Option.map_eq_some_iff.1 QE;have i:w.shape? b=some (199,2):=h.shape;have c:=h.cell 0;have o:=h.frozen 0;have k:=za (h.set 0 (.pointer (some ⟨b,0,none⟩)));have l:=za h;clear h;rcases n with rfl|rfl
 ·replace c:w.cell? ⟨b,0,none⟩=some (.pointer none):=c;go_enter func214,ntmps214
  go_wp2;rw[Lib.run_to_unsafe w ⟨b,0,none⟩ underlying197 underlying280 d (by rw[m];decide) i (Nat.zero_lt_succ 1)];simp only[Result.andThen];rw[Oper.upon_value];go_wp2;rw[run_callFunc_extern func238 (by kernel_rfl) (by kernel_rfl) (by kernel_rfl) (e:=Extern.AbiNoEscape.same) (by kernel_rfl)];rw[Lib.run_noEscape];simp only[Result.andThen];rw[Oper.upon_value];go_wp2;rw[Lib.run_from_unsafe w ⟨b,0,none⟩ underlying280 underlying197 d i QF];simp only[Result.andThen];rw[Oper.upon_value];go_wp2;go_end0
  exact⟨rfl,.inr rfl,k.out⟩
 replace c:w.cell? ⟨b,0,none⟩=some (.pointer (some ⟨b,0,none⟩)):=c;go_enter func214,ntmps214
 go_wp2;rw[Lib.run_neq_ptr_same w _ underlying197 d];go_wp2;go_end0
 exact⟨rfl,.inl rfl,l.out⟩
structure dg (E:TypeId)(base b:Nat)(w w':World):Prop where
 os:w'.os=w.os
 tape:w'.tape=w.tape
 output:w'.output=w.output
 size:w.heap.size<=w'.heap.size
 block:∀k,k<base->k≠b->w'.heap[k]?=w.heap[k]?
 other:∀(k:Nat) (o:Obj),w.heap[k]?=some o->k≠b->(∀cs fr,o≠Obj.cells cs E fr)->w'.heap[k]?=some o
theorem dg.refl (E:TypeId)(base b:Nat)(w:World):dg E base b w w:=⟨rfl,rfl,rfl,zg _,fun _ _ _=>rfl,fun _ _ h _ _=>h⟩
theorem dg.trans {b:Nat}{x y z:World}(h:dg E base b x y)(k:dg E base b y z):dg E base b x z:=
 ⟨k.os.trans h.os,k.tape.trans h.tape,k.output.trans h.output,zF h.size k.size,fun i hi c=>(k.block i hi c).trans (h.block i hi c),fun i o hi c d=>k.other i o (h.other i o hi c d) c d⟩
theorem Kept.b (h:Kept E base w w')(b:Nat):dg E base b w w':=
 ⟨h.below.os,h.below.tape,h.below.output,h.below.size,fun k c _=>h.below.block k c,fun k o c _ d=>h.other k o c d⟩
theorem dg.setCell (E:TypeId)(base b i:Nat)(w:World)(v:Value):dg E base b w (w.setCell ⟨b,i,none⟩ v):=
 ⟨rfl,rfl,rfl,by simp[World.setCell],fun k _ c=>zM w ⟨b,i,none⟩ v k c,fun k o d c _=>(zM w ⟨b,i,none⟩ v k c).trans d⟩
theorem dg.below {b:Nat}(h:dg E base b w w')(d:B<=base)(c:B<=b):Below B w w':=
 ⟨h.os,h.tape,h.output,h.size,fun k e=>h.block k (by omega) (by omega)⟩
theorem dg.kept {b:Nat}(h:dg E base b w w')(e:B<=base)(i:B<=b)(j:w.heap.size<=b):Kept E B w w':=
 ⟨h.below e i,fun k o c d=>h.other k o c (by have:=(yg.1 c).1;omega) d⟩
theorem dg.blk {b:Nat}{d:Array Value}(k:dg E base b w w')(h:af w g t d)(j:g≠b)(i:t≠E):af w' g t d:=
 k.other g _ h j (by intro c f e;injection e with _ e2;exact i e2)
theorem bF.abX {v:Value}{l:List UInt8}(h:bF w base E v l){b:Nat}(c:b<base)(i:Nat)(u:Value):bF (w.setCell ⟨b,i,none⟩ u) base E v l:=
 h.of_heap fun k d _=>zM w ⟨b,i,none⟩ u k (by simp;omega)
theorem wg (b base:Nat)(w:World)(l:List UInt8)(s:ByteArray)(h:DZ w base b l)(J:l++s.data.toList≠ [])(X:base<=w.heap.size)(S:l.length+s.size<=1099511627776):
 Calls prog 179 #[.pointer (some ⟨b,0,none⟩),.string s] w fun e w'=>e= .returned (.tuple #[.int .i64 s.size,.nilIface])/\DZ w' base b (l++s.data.toList)/\dg 5 base b w w':=by
 obtain⟨i0,hi,C,H,F⟩:=yI I8;obtain⟨o,p,v,k,I,z,_⟩:=h;have Z:=k.lt;have E:=za (FL b w p v k I);obtain⟨x,j,rfl,R,O⟩:=z.form;have q:=za z;clear z k;go_enter func179,ntmps179
 go_wp2_with fail
 refine E.out.mono ?_;rintro e n ⟨rfl,d,u⟩;have A:Hid (dg 5 base b w n):=za (by rcases d with rfl|rfl;exact dg.refl _ _ _ _;exact dg.setCell _ _ _ _ _ _);have D:Hid (bF n base 5 (.slice x l.length j) l):=za (by rcases d with rfl|rfl;exact q.out;exact q.out.abX o 0 _);have U:=A.out.size;clear d q;have N:n.cell? ⟨b,1,none⟩=some (.slice x l.length j):=u.cell 1;have G:=za u;clear u;have M:199≠5:=by decide
 go_wp2_with (at_builtin;refine aP (by rfl) (.tmp 12) (.tmp 13) 31 9 (by rfl) base 5 i0 zu hi C H F (by rfl) D.out _ s.data.toList (by rfl) (iN zP _ s) (by omega) (by rw[aa];omega) ?_;intro m n2 r y B i;have c:=G.out.kept i M;have Y:=c.frozen 1;have W:y.cell? ⟨b,1,none⟩=some (.slice x l.length j):=c.cell 1;have K:Hid (DZ (y.setCell ⟨b,1,none⟩ (.slice m n2 r)) base b (l++s.data.toList)):=za ⟨o,.pointer (some ⟨b,0,none⟩),.slice m n2 r,c.set 1 _,.inr rfl,B.abX o 1 _,fun h=>absurd h J⟩;have L:Hid (dg 5 base b w (y.setCell ⟨b,1,none⟩ (.slice m n2 r))):=za ((A.out.trans (i.b b)).trans (dg.setCell _ _ _ _ _ _));clear B i c)
 go_ret2
 exact⟨rfl,K.out,L.out⟩
theorem lZ (b base:Nat)(w:World)(l:List UInt8)(s:ByteArray)(h:DZ w base b l)(d:s.data.toList≠ [])(c:base<=w.heap.size)(i:l.length+s.size<=1099511627776):
 Calls prog 179 #[.pointer (some ⟨b,0,none⟩),.string s] w fun e w'=>e= .returned (.tuple #[.int .i64 s.size,.nilIface])/\DZ w' base b (l++s.data.toList)/\dg 5 base b w w':=
 wg b base w l s h (fun e=>d (List.append_eq_nil_iff.1 e).2) c i
theorem FM (b base:Nat)(w:World)(l:List UInt8)(h:DZ w base b l)(Y:l.length<=1099511627776)(B:Nat)(W:B<=base):
 Calls prog 155 #[.pointer (some ⟨b,0,none⟩)] w fun e w'=>e= .returned (.string ⟨l.toArray⟩)/\Below B w w'/\(∀(k:Nat) (o:Obj),w.heap[k]?=some o->o.isCells=false->w'.heap[k]?=some o):=by
 obtain⟨Z,p,v,i,J,C,r⟩:=h;by_cases d:l= []
 ·obtain rfl:=r d;subst d;have D:w.drew.cell? ⟨b,1,none⟩=some (.slice none 0 0):=i.cell 1;have H:(Builtin.unsafeSliceData_ #[31] 237 #[.slice none 0 0]).run prog w.drew= .ok (.pointer none) w.drew:=Lib.run_unsafeSliceData_nil _ _ _ _ _;have S:(Builtin.unsafeString_ #[237,3] 9 #[.pointer none,.int .i64 0]).run prog w.drew= .ok (.string .empty) w.drew:=Lib.run_unsafeString_none _ _ _ _ _;clear C i r;go_enter func155,ntmps155
  go_wp2;go_region
  all_goals(go_wp2;go_ret;exact⟨rfl,(zm B w).drew,fun _ _ h _=>h⟩)
 obtain⟨A,cap,rfl,O,U,G⟩:=C;have K:l.length≠0:=by simpa using d
 rcases G with⟨rfl,rfl⟩|⟨g,q,z,rfl,R,m,y,u,s⟩
 ·omega
 have D:w.drew.cell? ⟨b,1,none⟩=some (.slice (some ⟨g,0,none⟩) l.length cap):=i.cell 1;have H:(Builtin.unsafeSliceData_ #[31] 237 #[.slice (some ⟨g,0,none⟩) l.length cap]).run prog w.drew= .ok (.pointer (some ⟨g,0,none⟩)) w.drew:=
  Lib.run_unsafeSliceData_row _ _ _ _ _ _ (by omega)
 have S:(Builtin.unsafeString_ #[237,3] 9 #[.pointer (some ⟨g,0,none⟩),.int .i64 l.length]).run prog w.drew= .ok (.string ⟨l.toArray⟩) (w.drew.freeze ⟨g,0,none⟩ l.length):=by
  refine Lib.run_unsafeString_row w.drew 237 3 9 5 underlying237 FK g q.size (by have E:w.drew.heap[g]?=some (.cells q 5 z):=m;simp[World.shape?,E]) l d (by omega) (by omega) ?_;intro j x hx;have F:bF w base 5 (.slice (some ⟨g,0,none⟩) l.length cap) l:=⟨_,cap,rfl,O,U,.inr ⟨g,q,z,rfl,R,m,y,u,s⟩⟩
  exact F.cells ⟨g,0,none⟩ rfl j (.int .u8 x.toNat) (by rw[Ev,hx];rfl)
 have L:Hid (Below B w (w.drew.freeze ⟨g,0,none⟩ l.length)):=za (Lib.below_freeze (Below.drew (zm B w)) (p:=⟨g,0,none⟩) (by simp;omega) _);have N:Hid (∀(k:Nat) (o:Obj),w.heap[k]?=some o->o.isCells=false->(w.drew.freeze ⟨g,0,none⟩ l.length).heap[k]?=some o):=za (by
  intro k o c M;have I:k≠g:=by rintro rfl;rw[m]at c;injection c with c;subst c;cases M
  unfold World.freeze;split
  ·exact c
  simp only[Zs];rw[zh (fun e=>I e.symm)];exact c)
 clear m y u s i r J d K;generalize l.length=n at*;generalize (⟨l.toArray⟩:ByteArray)=X at*;go_enter func155,ntmps155
 go_wp2;go_region
 all_goals(go_wp2;go_ret;exact⟨rfl,L.out,N.out⟩)
