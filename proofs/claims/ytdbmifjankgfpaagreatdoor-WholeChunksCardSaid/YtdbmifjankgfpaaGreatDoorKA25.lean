/- strings.Builder with a Buf in it: copyCheck. -/
import Derived.Test.YtdbmifjankgfpaaGreatDoorProg
import Derived.Test.YtdbmifjankgfpaaGreatDoorKA1
import Derived.Shelf.Strings.Builder1
import Derived.WalkSpells
import Derived.RangeFuncOwn
import Derived.Shelf.RegionOpen
set_option linter.all false
set_option maxRecDepth 100000
set_option maxHeartbeats 1000000
namespace Go.Proofs.YtdbmifjankgfpaaGreatDoor
open Tryz
open Go.RowKit
def zt:=@underlying31
def zH:=@underlying9
def yF:=@info_parts
theorem Ji :(prog.info? 5).map (fun i=>(i.zero,i.size,i.bytes))=some (some (.int .u8 0),1,1):=by kernel_rfl
theorem QC :(prog.info? 199).map (·.size)=some 2:=by kernel_rfl
theorem QD :liesAt prog (prog).depth 199 (2/(prog).cellsOf 199) 0 199 1=true:=by kernel_rfl
theorem F8 :(prog).cellsOf 5=1:=by kernel_rfl
theorem af.shape {w:World}{g:Nat}{t:TypeId}{b:Array Value}(h:af w g t b):w.shape? g=some (t,b.size):=by
 unfold af at h;simp[World.shape?,h]
def Ei (w:World)(base b:Nat)(l:List UInt8):Prop:=b<base/\∃p v,af w b 199 #[p,v]/\(p= .pointer none\/p= .pointer (some ⟨b,0,none⟩))/\bL w base 5 v l/\(l= []->v= .slice none 0 0)
theorem F9 (b:Nat)(w:World)(p v:Value)(h:af w b 199 #[p,v])(l:p= .pointer none\/p= .pointer (some ⟨b,0,none⟩)):
 Calls prog 214 #[.pointer (some ⟨b,0,none⟩)] w fun e w'=>e= .returned (.tuple #[])/\(w'=w\/w'=w.setCell ⟨b,0,none⟩ (.pointer (some ⟨b,0,none⟩)))/\af w' b 199 #[.pointer (some ⟨b,0,none⟩),v]:=by
 obtain⟨j,d,n⟩:=Option.map_eq_some_iff.1 QC;have i:w.shape? b=some (199,2):=h.shape;have c:=h.cell 0;have o:=h.frozen 0;have k:=za (h.set 0 (.pointer (some ⟨b,0,none⟩)));have m:=za h;clear h;rcases l with rfl|rfl
 ·replace c:w.cell? ⟨b,0,none⟩=some (.pointer none):=c;go_enter func214,ntmps214
  go_wp2;rw[Lib.run_to_unsafe w ⟨b,0,none⟩ underlying197 underlying280 d (by rw[n];decide) i (Nat.zero_lt_succ 1)];simp only[Result.andThen];rw[Oper.upon_value];go_wp2;rw[run_callFunc_extern func238 (by kernel_rfl) (by kernel_rfl) (by kernel_rfl) (e:=Extern.AbiNoEscape.same) (by kernel_rfl)];rw[Lib.run_noEscape];simp only[Result.andThen];rw[Oper.upon_value];go_wp2;rw[Lib.run_from_unsafe w ⟨b,0,none⟩ underlying280 underlying197 d i QD];simp only[Result.andThen];rw[Oper.upon_value];go_wp2;go_end0
  exact⟨rfl,.inr rfl,k.out⟩
 replace c:w.cell? ⟨b,0,none⟩=some (.pointer (some ⟨b,0,none⟩)):=c;go_enter func214,ntmps214
 go_wp2;rw[Lib.run_neq_ptr_same w _ underlying197 d];go_wp2;go_end0
 exact⟨rfl,.inl rfl,m.out⟩
structure cW (E:TypeId)(base b:Nat)(w w':World):Prop where
 os:w'.os=w.os
 tape:w'.tape=w.tape
 output:w'.output=w.output
 size:w.heap.size<=w'.heap.size
 block:∀k,k<base->k≠b->w'.heap[k]?=w.heap[k]?
 other:∀(k:Nat) (o:Obj),w.heap[k]?=some o->k≠b->(∀cs fr,o≠Obj.cells cs E fr)->w'.heap[k]?=some o
theorem cW.refl (E:TypeId)(base b:Nat)(w:World):cW E base b w w:=⟨rfl,rfl,rfl,zd _,fun _ _ _=>rfl,fun _ _ h _ _=>h⟩
theorem cW.trans {E:TypeId}{base b:Nat}{x y z:World}(h:cW E base b x y)(k:cW E base b y z):cW E base b x z:=
 ⟨k.os.trans h.os,k.tape.trans h.tape,k.output.trans h.output,zF h.size k.size,fun i hi c=>(k.block i hi c).trans (h.block i hi c),fun i o hi c d=>k.other i o (h.other i o hi c d) c d⟩
theorem Kept.b {E:TypeId}{base:Nat}{w w':World}(h:Kept E base w w')(b:Nat):cW E base b w w':=
 ⟨h.below.os,h.below.tape,h.below.output,h.below.size,fun k c _=>h.below.block k c,fun k o c _ d=>h.other k o c d⟩
theorem cW.setCell (E:TypeId)(base b i:Nat)(w:World)(v:Value):cW E base b w (w.setCell ⟨b,i,none⟩ v):=
 ⟨rfl,rfl,rfl,by simp[World.setCell],fun k _ c=>zQ w ⟨b,i,none⟩ v k c,fun k o d c _=>(zQ w ⟨b,i,none⟩ v k c).trans d⟩
theorem cW.below {E:TypeId}{base b B:Nat}{w w':World}(h:cW E base b w w')(d:B<=base)(c:B<=b):Below B w w':=
 ⟨h.os,h.tape,h.output,h.size,fun k e=>h.block k (by omega) (by omega)⟩
theorem cW.kept {E:TypeId}{base b B:Nat}{w w':World}(h:cW E base b w w')(e:B<=base)(d:B<=b)(j:w.heap.size<=b):Kept E B w w':=
 ⟨h.below e d,fun k o c i=>h.other k o c (by have:=(yd.1 c).1;omega) i⟩
theorem cW.blk {E:TypeId}{base b g:Nat}{w w':World}{t:TypeId}{d:Array Value}(k:cW E base b w w')(h:af w g t d)(i:g≠b)(j:t≠E):af w' g t d:=
 k.other g _ h i (by intro c f e;injection e with _ e2;exact j e2)
theorem bL.acv {w:World}{base:Nat}{E:TypeId}{v:Value}{l:List UInt8}(h:bL w base E v l){b:Nat}(c:b<base)(i:Nat)(u:Value):bL (w.setCell ⟨b,i,none⟩ u) base E v l:=
 h.of_heap fun k d _=>zQ w ⟨b,i,none⟩ u k (by simp;omega)
theorem wA (b base:Nat)(w:World)(l:List UInt8)(s:ByteArray)(h:Ei w base b l)(C:l++s.data.toList≠ [])(W:base<=w.heap.size)(S:l.length+s.size<=1099511627776):
 Calls prog 179 #[.pointer (some ⟨b,0,none⟩),.string s] w fun e w'=>e= .returned (.tuple #[.int .i64 s.size,.nilIface])/\Ei w' base b (l++s.data.toList)/\cW 5 base b w w':=by
 obtain⟨i0,hi,E,L,I⟩:=yF Ji;obtain⟨i,p,v,d,F,n,_⟩:=h;have Y:=d.lt;have M:=za (F9 b w p v d F);obtain⟨j,y,rfl,O,U⟩:=n.form;have u:=za n;clear n d;go_enter func179,ntmps179
 go_wp2_with fail
 refine M.out.mono ?_;rintro e q ⟨rfl,z,r⟩;have B:Hid (cW 5 base b w q):=za (by rcases z with rfl|rfl;exact cW.refl _ _ _ _;exact cW.setCell _ _ _ _ _ _);have J:Hid (bL q base 5 (.slice j l.length y) l):=za (by rcases z with rfl|rfl;exact u.out;exact u.out.acv i 0 _);have Z:=B.out.size;clear z u;have N:q.cell? ⟨b,1,none⟩=some (.slice j l.length y):=r.cell 1;have H:=za r;clear r;have K:199≠5:=by decide
 go_wp2_with (at_builtin;refine aT (by rfl) (.tmp 12) (.tmp 13) 31 9 (by rfl) base 5 i0 zt hi E L I (by rfl) J.out _ s.data.toList (by rfl) (jt zH _ s) (by omega) (by rw[aa];omega) ?_;intro k n2 m x A o;have c:=H.out.kept o K;have R:=c.frozen 1;have X:x.cell? ⟨b,1,none⟩=some (.slice j l.length y):=c.cell 1;have D:Hid (Ei (x.setCell ⟨b,1,none⟩ (.slice k n2 m)) base b (l++s.data.toList)):=za ⟨i,.pointer (some ⟨b,0,none⟩),.slice k n2 m,c.set 1 _,.inr rfl,A.acv i 1 _,fun h=>absurd h C⟩;have G:Hid (cW 5 base b w (x.setCell ⟨b,1,none⟩ (.slice k n2 m))):=za ((B.out.trans (o.b b)).trans (cW.setCell _ _ _ _ _ _));clear A o c)
 go_ret2
 exact⟨rfl,D.out,G.out⟩
theorem l9 (b base:Nat)(w:World)(l:List UInt8)(s:ByteArray)(h:Ei w base b l)(i:s.data.toList≠ [])(c:base<=w.heap.size)(d:l.length+s.size<=1099511627776):
 Calls prog 179 #[.pointer (some ⟨b,0,none⟩),.string s] w fun e w'=>e= .returned (.tuple #[.int .i64 s.size,.nilIface])/\Ei w' base b (l++s.data.toList)/\cW 5 base b w w':=
 wA b base w l s h (fun e=>i (List.append_eq_nil_iff.1 e).2) c d
theorem F' (b base:Nat)(w:World)(l:List UInt8)(h:Ei w base b l)(Y:l.length<=1099511627776)(B:Nat)(Z:B<=base):
 Calls prog 155 #[.pointer (some ⟨b,0,none⟩)] w fun e w'=>e= .returned (.string ⟨l.toArray⟩)/\Below B w w'/\(∀(k:Nat) (o:Obj),w.heap[k]?=some o->o.isCells=false->w'.heap[k]?=some o):=by
 obtain⟨W,p,v,i,L,y,q⟩:=h;by_cases d:l= []
 ·obtain rfl:=q d;subst d;have S:w.drew.cell? ⟨b,1,none⟩=some (.slice none 0 0):=i.cell 1;have D:(Builtin.unsafeSliceData_ #[31] 237 #[.slice none 0 0]).run prog w.drew= .ok (.pointer none) w.drew:=Lib.run_unsafeSliceData_nil _ _ _ _ _;have E:(Builtin.unsafeString_ #[237,3] 9 #[.pointer none,.int .i64 0]).run prog w.drew= .ok (.string .empty) w.drew:=Lib.run_unsafeString_none _ _ _ _ _;clear y i q;go_enter func155,ntmps155
  go_wp2;go_region
  all_goals(go_wp2;go_ret;exact⟨rfl,(zl B w).drew,fun _ _ h _=>h⟩)
 obtain⟨A,cap,rfl,M,J,I⟩:=y;have F:l.length≠0:=by simpa using d
 rcases I with⟨rfl,rfl⟩|⟨g,r,u,rfl,N,m,C,z,s⟩
 ·omega
 have S:w.drew.cell? ⟨b,1,none⟩=some (.slice (some ⟨g,0,none⟩) l.length cap):=i.cell 1;have D:(Builtin.unsafeSliceData_ #[31] 237 #[.slice (some ⟨g,0,none⟩) l.length cap]).run prog w.drew= .ok (.pointer (some ⟨g,0,none⟩)) w.drew:=
  Lib.run_unsafeSliceData_row _ _ _ _ _ _ (by omega)
 have E:(Builtin.unsafeString_ #[237,3] 9 #[.pointer (some ⟨g,0,none⟩),.int .i64 l.length]).run prog w.drew= .ok (.string ⟨l.toArray⟩) (w.drew.freeze ⟨g,0,none⟩ l.length):=by
  refine Lib.run_unsafeString_row w.drew 237 3 9 5 underlying237 F8 g r.size (by have O:w.drew.heap[g]?=some (.cells r 5 u):=m;simp[World.shape?,O]) l d (by omega) (by omega) ?_;intro j x hx;have K:bL w base 5 (.slice (some ⟨g,0,none⟩) l.length cap) l:=⟨_,cap,rfl,M,J,.inr ⟨g,r,u,rfl,N,m,C,z,s⟩⟩
  exact K.cells ⟨g,0,none⟩ rfl j (.int .u8 x.toNat) (by rw[ET,hx];rfl)
 have H:Hid (Below B w (w.drew.freeze ⟨g,0,none⟩ l.length)):=za (Lib.below_freeze (Below.drew (zl B w)) (p:=⟨g,0,none⟩) (by simp;omega) _);have G:Hid (∀(k:Nat) (o:Obj),w.heap[k]?=some o->o.isCells=false->(w.drew.freeze ⟨g,0,none⟩ l.length).heap[k]?=some o):=za (by
  intro k o c U;have R:k≠g:=by rintro rfl;rw[m]at c;injection c with c;subst c;cases U
  unfold World.freeze;split
  ·exact c
  simp only[ZA];rw[zh (fun e=>R e.symm)];exact c)
 clear m C z s i q L d F;generalize l.length=n at*;generalize (⟨l.toArray⟩:ByteArray)=X at*;go_enter func155,ntmps155
 go_wp2;go_region
 all_goals(go_wp2;go_ret;exact⟨rfl,H.out,G.out⟩)
