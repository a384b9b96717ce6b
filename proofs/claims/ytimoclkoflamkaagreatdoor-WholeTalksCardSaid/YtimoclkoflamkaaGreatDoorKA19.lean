/- strings.Builder with a Buf in it: copyCheck. -/
import Derived.Test.YtimoclkoflamkaaGreatDoorProg
import Derived.Test.YtimoclkoflamkaaGreatDoorKA2
import Derived.Shelf.Strings.Builder1
import Derived.WalkSpells
import Derived.RangeFuncOwn
import Derived.Shelf.RegionOpen
set_option linter.all false
set_option maxRecDepth 100000
set_option maxHeartbeats 1000000
open Go.Proofs.Tryz
namespace Go.Proofs.YtimoclkoflamkaaGreatDoor
open Go.RowKit
variable {w w':World}{E t:TypeId}{base g B:Nat}
def zo:=@underlying75
def zI:=@underlying9
def yw:=@info_parts
def Yg:=@Nat.zero_lt_succ
theorem Kx :(prog.info? 5).map (fun i=>(i.zero,i.size,i.bytes))=some (some (.int .u8 0),1,1):=by kernel_rfl
theorem SB :(prog.info? 171).map (·.size)=some 2:=by kernel_rfl
theorem SC :liesAt prog (prog).depth 171 (2/(prog).cellsOf 171) 0 171 1=true:=by kernel_rfl
theorem G' :(prog).cellsOf 5=1:=by kernel_rfl
theorem af.shape {b:Array Value}(h:af w g t b):w.shape? g=some (t,b.size):=by
 unfold af at h;simp[World.shape?,h]
def Fj (w:World)(base b:Nat)(l:List UInt8):Prop:=b<base/\∃p v,af w b 171 #[p,v]/\(p= .pointer none\/p= .pointer (some (b,0)))/\bR w base 5 v l/\(l= []->v= .slice none 0 0)
theorem Ha (b:Nat)(w:World)(p v:Value)(h:af w b 171 #[p,v])(k:p= .pointer none\/p= .pointer (some (b,0))):
 Calls prog 199 #[(b,0)] w fun e w'=>e= .returned (.tuple #[])/\(w'=w\/w'=w.setCell (b,0) (b,0))/\af w' b 171 #[(b,0),v]:=by
 obtain⟨j,d,m⟩:=Option.map_eq_some_iff.1 SB;have i:w.shape? b=some (171,2):=h.shape;have c:=h.cell 0;have o:=h.frozen 0;have l:=za (h.set 0 (b,0));have n:=za h;clear h;rcases k with rfl|rfl
 ·replace c:w.cell? (b,0)=some (.pointer none):=c;go_enter func199,ntmps199
  go_wp2;rw[Lib.run_to_unsafe w ⟨b,0,none⟩ underlying169 underlying272 d (by rw[m];decide) i (Yg 1)];simp only[Result.andThen];rw[Oper.upon_value];go_wp2;rw[run_callFunc_extern func223 (by kernel_rfl) (by kernel_rfl) (by kernel_rfl) (e:=Extern.AbiNoEscape.same) (by kernel_rfl)];rw[Lib.run_noEscape];simp only[Result.andThen];rw[Oper.upon_value];go_wp2;rw[Lib.run_from_unsafe w ⟨b,0,none⟩ underlying272 underlying169 d i SC];simp only[Result.andThen];rw[Oper.upon_value];go_wp2;go_end0
  exact⟨rfl,.inr rfl,l.out⟩
 replace c:w.cell? (b,0)=some (.pointer (some (b,0))):=c;go_enter func199,ntmps199
 go_wp2;rw[Lib.run_neq_ptr_same w _ underlying169 d];go_wp2;go_end0
 exact⟨rfl,.inl rfl,n.out⟩
structure cW (E:TypeId)(base b:Nat)(w w':World):Prop where
 os:w'.os=w.os
 tape:w'.tape=w.tape
 output:w'.output=w.output
 size:w.heap.size<=w'.heap.size
 block:∀k,k<base->k≠b->w'.heap[k]?=w.heap[k]?
 other:∀(k:Nat) (o:Obj),w.heap[k]?=some o->k≠b->(∀cs fr,o≠Obj.cells cs E fr)->w'.heap[k]?=some o
theorem cW.refl (E:TypeId)(base b:Nat)(w:World):cW E base b w w:=⟨rfl,rfl,rfl,ze _,fun _ _ _=>rfl,fun _ _ h _ _=>h⟩
theorem cW.trans {b:Nat}{x y z:World}(h:cW E base b x y)(k:cW E base b y z):cW E base b x z:=
 ⟨k.os.trans h.os,k.tape.trans h.tape,k.output.trans h.output,zz h.size k.size,fun i hi c=>(k.block i hi c).trans (h.block i hi c),fun i o hi c d=>k.other i o (h.other i o hi c d) c d⟩
theorem Kept.b (h:Kept E base w w')(b:Nat):cW E base b w w':=
 ⟨h.below.os,h.below.tape,h.below.output,h.below.size,fun k hk _=>h.below.block k hk,fun k o hk _ ho=>h.other k o hk ho⟩
theorem cW.setCell (E:TypeId)(base b i:Nat)(w:World)(v:Value):cW E base b w (w.setCell (b,i) v):=
 ⟨rfl,rfl,rfl,by simp[World.setCell],fun k _ c=>zR w (b,i) v k c,fun k o d c _=>(zR w (b,i) v k c).trans d⟩
theorem cW.below {b:Nat}(h:cW E base b w w')(c:B<=base)(d:B<=b):Below B w w':=
 ⟨h.os,h.tape,h.output,h.size,fun k e=>h.block k (by omega) (by omega)⟩
theorem cW.kept {b:Nat}(h:cW E base b w w')(d:B<=base)(i:B<=b)(j:w.heap.size<=b):Kept E B w w':=
 ⟨h.below d i,fun k o c e=>h.other k o c (by have:=(yb.1 c).1;omega) e⟩
theorem cW.blk {b:Nat}{d:Array Value}(k:cW E base b w w')(h:af w g t d)(i:g≠b)(j:t≠E):af w' g t d:=
 k.other g _ h i (by intro c f e;injection e with _ e2;exact j e2)
theorem bR.aeE {v:Value}{l:List UInt8}(h:bR w base E v l){b:Nat}(c:b<base)(i:Nat)(u:Value):bR (w.setCell (b,i) u) base E v l:=
 h.of_heap fun k d _=>zR w (b,i) u k (by simp;omega)
theorem AG (b base:Nat)(w:World)(l:List UInt8)(s:ByteArray)(h:Fj w base b l)(F:l++s.data.toList≠ [])(N:base<=w.heap.size)(U:l.length+s.size<=1099511627776):
 Calls prog 158 #[(b,0),s] w fun e w'=>e= .returned (.tuple #[s.size,.nilIface])/\Fj w' base b (l++s.data.toList)/\cW 5 base b w w':=by
 obtain⟨i0,hi,H,L,J⟩:=yw Kx;obtain⟨k,p,v,i,I,u,_⟩:=h;have M:=i.lt;have D:=za (Ha b w p v i I);obtain⟨q,y,rfl,O,X⟩:=u.form;have d:=za u;clear u i;go_enter func158,ntmps158
 go_wp2_with fail
 refine D.out.mono ?_;rintro e r ⟨rfl,m,o⟩;have A:Hid (cW 5 base b w r):=za (by rcases m with rfl|rfl;exact cW.refl _ _ _ _;exact cW.setCell _ _ _ _ _ _);have E:Hid (bR r base 5 (.slice q l.length y) l):=za (by rcases m with rfl|rfl;exact d.out;exact d.out.aeE k 0 _);have S:=A.out.size;clear m d;have R:r.cell? (b,1)=some (.slice q l.length y):=o.cell 1;have C:=za o;clear o;have B:171≠5:=by decide
 go_wp2_with (at_builtin;refine aP (by rfl) (.tmp 12) (.tmp 13) 75 9 (by rfl) base 5 i0 zo hi H L J (by rfl) E.out _ s.data.toList (by rfl) (iE zI _ s) (by omega) (by rw[aa];omega) ?_;intro j n2 cap2 x z n;have c:=C.out.kept n B;have W:=c.frozen 1;have Y:x.cell? (b,1)=some (.slice q l.length y):=c.cell 1;have K:Hid (Fj (x.setCell (b,1) (.slice j n2 cap2)) base b (l++s.data.toList)):=za ⟨k,(b,0),.slice j n2 cap2,c.set 1 _,.inr rfl,z.aeE k 1 _,fun h=>absurd h F⟩;have G:Hid (cW 5 base b w (x.setCell (b,1) (.slice j n2 cap2))):=za ((A.out.trans (n.b b)).trans (cW.setCell _ _ _ _ _ _));clear z n c)
 go_ret2
 exact⟨rfl,K.out,G.out⟩
theorem l6 (b base:Nat)(w:World)(l:List UInt8)(s:ByteArray)(h:Fj w base b l)(i:s.data.toList≠ [])(c:base<=w.heap.size)(d:l.length+s.size<=1099511627776):
 Calls prog 158 #[(b,0),s] w fun e w'=>e= .returned (.tuple #[s.size,.nilIface])/\Fj w' base b (l++s.data.toList)/\cW 5 base b w w':=
 AG b base w l s h (fun e=>i (List.append_eq_nil_iff.1 e).2) c d
theorem Hb (b base:Nat)(w:World)(l:List UInt8)(h:Fj w base b l)(Y:l.length<=1099511627776)(B:Nat)(Z:B<=base):
 Calls prog 121 #[(b,0)] w fun e w'=>e= .returned (.string ⟨l.toArray⟩)/\Below B w w'/\(∀(k:Nat) (o:Obj),w.heap[k]?=some o->o.isCells=false->w'.heap[k]?=some o):=by
 obtain⟨W,p,v,i,L,C,r⟩:=h;by_cases d:l= []
 ·obtain rfl:=r d;subst d;have U:w.drew.cell? (b,1)=some (.slice none 0 0):=i.cell 1;have M:(Builtin.unsafeSliceData_ #[75] 219 #[nS]).run prog w.drew= .ok (.pointer none) w.drew:=Lib.run_unsafeSliceData_nil _ _ _ _ _;have J:(Builtin.unsafeString_ #[219,3] 9 #[.pointer none,(0:Int)]).run prog w.drew= .ok (.string .empty) w.drew:=Lib.run_unsafeString_none _ _ _ _ _;clear C i r;go_enter func121,ntmps121
  go_wp2;go_region
  all_goals(go_wp2;go_ret;exact⟨rfl,(zi B w).drew,fun _ _ h _=>h⟩)
 obtain⟨A,cap,rfl,R,E,I⟩:=C;have O:l.length≠0:=by simpa using d
 rcases I with⟨rfl,rfl⟩|⟨g,q,z,rfl,S,m,u,y,s⟩
 ·omega
 have U:w.drew.cell? (b,1)=some (.slice (some (g,0)) l.length cap):=i.cell 1;have M:(Builtin.unsafeSliceData_ #[75] 219 #[.slice (some (g,0)) l.length cap]).run prog w.drew= .ok (g,0) w.drew:=
  Lib.run_unsafeSliceData_row _ _ _ _ _ _ (by omega)
 have J:(Builtin.unsafeString_ #[219,3] 9 #[(g,0),l.length]).run prog w.drew= .ok (.string ⟨l.toArray⟩) (w.drew.freeze (g,0) l.length):=by
  refine Lib.run_unsafeString_row w.drew 219 3 9 5 underlying219 G' g q.size (by have G:w.drew.heap[g]?=some (.cells q 5 z):=m;simp[World.shape?,G]) l d (by omega) (by omega) ?_;intro j x hx;have F:bR w base 5 (.slice (some (g,0)) l.length cap) l:=⟨_,cap,rfl,R,E,.inr ⟨g,q,z,rfl,S,m,u,y,s⟩⟩
  exact F.cells (g,0) rfl j (.int .u8 x.toNat) (by rw[FT,hx];rfl)
 have N:Hid (Below B w (w.drew.freeze (g,0) l.length)):=za (Lib.below_freeze (Below.drew (zi B w)) (p:=(g,0)) (by simp;omega) _);have H:Hid (∀(k:Nat) (o:Obj),w.heap[k]?=some o->o.isCells=false->(w.drew.freeze (g,0) l.length).heap[k]?=some o):=za (by
  intro k o c K;have D:k≠g:=by rintro rfl;rw[m]at c;injection c with c;subst c;cases K
  unfold World.freeze;split
  ·exact c
  simp only[ZJ];rw[zf (fun e=>D e.symm)];exact c)
 clear m u y s i r L d O;generalize l.length=n at*;generalize (⟨l.toArray⟩:ByteArray)=X at*;go_enter func121,ntmps121
 go_wp2;go_region
 all_goals(go_wp2;go_ret;exact⟨rfl,N.out,H.out⟩)
