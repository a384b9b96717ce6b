/- strings.Builder with a Buf in it: copyCheck. -/
import Derived.Test.YtimoclkoflamkaaGreatDoorProg
import Derived.Test.YtimoclkoflamkaaGreatDoorKA2
import Derived.Shelf.Strings.Builder1
import Derived.WalkSpells
import Derived.RangeFuncOwn
import Derived.Shelf.RegionOpen
set_option linter.all false
set_option maxRecDepth 100000
set_option maxHeartbeats 1000000
open Go.Proofs.Tryz
namespace Go.Proofs.YtimoclkoflamkaaGreatDoor
open Go.RowKit
variable {w w':World}{E t:TypeId}{base g B:Nat}
def zr:=@underlying75
def zN:=@underlying9
def yA:=@info_parts
def Z6:=@Nat.zero_lt_succ
theorem Jl :(prog.info? 5).map (fun i=>(i.zero,i.size,i.bytes))=some (some (.int .u8 0),1,1):=by kernel_rfl
theorem Qv :(prog.info? 171).map (·.size)=some 2:=by kernel_rfl
theorem Qw :liesAt prog (prog).depth 171 (2/(prog).cellsOf 171) 0 171 1=true:=by kernel_rfl
theorem F3 :(prog).cellsOf 5=1:=by kernel_rfl
theorem ag.shape {b:Array Value}(h:ag w g t b):w.shape? g=some (t,b.size):=by
 unfold ag at h;simp[World.shape?,h]
def DX (w:World)(base b:Nat)(l:List UInt8):Prop:=b<base/\∃p v,ag w b 171 #[p,v]/\(p= .pointer none\/p= .pointer (some (b,0)))/\bP w base 5 v l/\(l= []->v= .slice none 0 0)
theorem F4 (b:Nat)(w:World)(p v:Value)(h:ag w b 171 #[p,v])(n:p= .pointer none\/p= .pointer (some (b,0))):
 Calls prog 199 #[(b,0)] w fun e w'=>e= .returned (.tuple #[])/\(w'=w\/w'=w.setCell (b,0) (b,0))/\ag w' b 171 #[(b,0),v]:=by
 obtain⟨j,d,k⟩:=Option.map_eq_some_iff.1 Qv;have i:w.shape? b=some (171,2):=h.shape;have c:=h.cell 0;have o:=h.frozen 0;have m:=za (h.set 0 (b,0));have l:=za h;clear h;rcases n with rfl|rfl
 ·replace c:w.cell? (b,0)=some (.pointer none):=c;go_enter func199,ntmps199
  go_wp2;rw[Lib.run_to_unsafe w ⟨b,0,none⟩ underlying169 underlying272 d (by rw[k];decide) i (Z6 1)];simp only[Result.andThen];rw[Oper.upon_value];go_wp2;rw[run_callFunc_extern func223 (by kernel_rfl) (by kernel_rfl) (by kernel_rfl) (e:=Extern.AbiNoEscape.same) (by kernel_rfl)];rw[Lib.run_noEscape];simp only[Result.andThen];rw[Oper.upon_value];go_wp2;rw[Lib.run_from_unsafe w ⟨b,0,none⟩ underlying272 underlying169 d i Qw];simp only[Result.andThen];rw[Oper.upon_value];go_wp2;go_end0
  exact⟨rfl,.inr rfl,m.out⟩
 replace c:w.cell? (b,0)=some (.pointer (some (b,0))):=c;go_enter func199,ntmps199
 go_wp2;rw[Lib.run_neq_ptr_same w _ underlying169 d];go_wp2;go_end0
 exact⟨rfl,.inl rfl,l.out⟩
structure cU (E:TypeId)(base b:Nat)(w w':World):Prop where
 os:w'.os=w.os
 tape:w'.tape=w.tape
 output:w'.output=w.output
 size:w.heap.size<=w'.heap.size
 block:∀k,k<base->k≠b->w'.heap[k]?=w.heap[k]?
 other:∀(k:Nat) (o:Obj),w.heap[k]?=some o->k≠b->(∀cs fr,o≠Obj.cells cs E fr)->w'.heap[k]?=some o
theorem cU.refl (E:TypeId)(base b:Nat)(w:World):cU E base b w w:=⟨rfl,rfl,rfl,zd _,fun _ _ _=>rfl,fun _ _ h _ _=>h⟩
theorem cU.trans {b:Nat}{x y z:World}(h:cU E base b x y)(k:cU E base b y z):cU E base b x z:=
 ⟨k.os.trans h.os,k.tape.trans h.tape,k.output.trans h.output,zG h.size k.size,fun i hi c=>(k.block i hi c).trans (h.block i hi c),fun i o hi c d=>k.other i o (h.other i o hi c d) c d⟩
theorem Kept.b (h:Kept E base w w')(b:Nat):cU E base b w w':=
 ⟨h.below.os,h.below.tape,h.below.output,h.below.size,fun k c _=>h.below.block k c,fun k o c _ d=>h.other k o c d⟩
theorem cU.setCell (E:TypeId)(base b i:Nat)(w:World)(v:Value):cU E base b w (w.setCell (b,i) v):=
 ⟨rfl,rfl,rfl,by simp[World.setCell],fun k _ c=>zS w (b,i) v k c,fun k o d c _=>(zS w (b,i) v k c).trans d⟩
theorem cU.below {b:Nat}(h:cU E base b w w')(d:B<=base)(c:B<=b):Below B w w':=
 ⟨h.os,h.tape,h.output,h.size,fun k e=>h.block k (by omega) (by omega)⟩
theorem cU.kept {b:Nat}(h:cU E base b w w')(i:B<=base)(d:B<=b)(j:w.heap.size<=b):Kept E B w w':=
 ⟨h.below i d,fun k o c e=>h.other k o c (by have:=(yd.1 c).1;omega) e⟩
theorem cU.blk {b:Nat}{d:Array Value}(j:cU E base b w w')(h:ag w g t d)(k:g≠b)(i:t≠E):ag w' g t d:=
 j.other g _ h k (by intro c f e;injection e with _ e2;exact i e2)
theorem bP.acu {v:Value}{l:List UInt8}(h:bP w base E v l){b:Nat}(c:b<base)(i:Nat)(u:Value):bP (w.setCell (b,i) u) base E v l:=
 h.of_heap fun k d _=>zS w (b,i) u k (by simp;omega)
theorem wz (b base:Nat)(w:World)(l:List UInt8)(s:ByteArray)(h:DX w base b l)(G:l++s.data.toList≠ [])(Y:base<=w.heap.size)(R:l.length+s.size<=1099511627776):
 Calls prog 158 #[(b,0),s] w fun e w'=>e= .returned (.tuple #[s.size,.nilIface])/\DX w' base b (l++s.data.toList)/\cU 5 base b w w':=by
 obtain⟨i0,hi,K,D,E⟩:=yA Jl;obtain⟨k,p,v,i,F,n,_⟩:=h;have U:=i.lt;have H:=za (F4 b w p v i F);obtain⟨j,u,rfl,S,W⟩:=n.form;have q:=za n;clear n i;go_enter func158,ntmps158
 go_wp2_with fail
 refine H.out.mono ?_;rintro e y ⟨rfl,m,x⟩;have A:Hid (cU 5 base b w y):=za (by rcases m with rfl|rfl;exact cU.refl _ _ _ _;exact cU.setCell _ _ _ _ _ _);have B:Hid (bP y base 5 (.slice j l.length u) l):=za (by rcases m with rfl|rfl;exact q.out;exact q.out.acu k 0 _);have O:=A.out.size;clear m q;have M:y.cell? (b,1)=some (.slice j l.length u):=x.cell 1;have J:=za x;clear x;have I:171≠5:=by decide
 go_wp2_with (at_builtin;refine aP (by rfl) (.tmp 12) (.tmp 13) 75 9 (by rfl) base 5 i0 zr hi K D E (by rfl) B.out _ s.data.toList (by rfl) (iz zN _ s) (by omega) (by rw[aa];omega) ?_;intro r n2 cap2 d z o;have c:=J.out.kept o I;have X:=c.frozen 1;have N:d.cell? (b,1)=some (.slice j l.length u):=c.cell 1;have C:Hid (DX (d.setCell (b,1) (.slice r n2 cap2)) base b (l++s.data.toList)):=za ⟨k,(b,0),.slice r n2 cap2,c.set 1 _,.inr rfl,z.acu k 1 _,fun h=>absurd h G⟩;have L:Hid (cU 5 base b w (d.setCell (b,1) (.slice r n2 cap2))):=za ((A.out.trans (o.b b)).trans (cU.setCell _ _ _ _ _ _));clear z o c)
 go_ret2
 exact⟨rfl,C.out,L.out⟩
theorem lQ (b base:Nat)(w:World)(l:List UInt8)(s:ByteArray)(h:DX w base b l)(i:s.data.toList≠ [])(c:base<=w.heap.size)(d:l.length+s.size<=1099511627776):
 Calls prog 158 #[(b,0),s] w fun e w'=>e= .returned (.tuple #[s.size,.nilIface])/\DX w' base b (l++s.data.toList)/\cU 5 base b w w':=
 wz b base w l s h (fun e=>i (List.append_eq_nil_iff.1 e).2) c d
theorem F5 (b base:Nat)(w:World)(l:List UInt8)(h:DX w base b l)(Z:l.length<=1099511627776)(B:Nat)(Y:B<=base):
 Calls prog 121 #[(b,0)] w fun e w'=>e= .returned (.string ⟨l.toArray⟩)/\Below B w w'/\(∀(k:Nat) (o:Obj),w.heap[k]?=some o->o.isCells=false->w'.heap[k]?=some o):=by
 obtain⟨W,p,v,i,J,u,r⟩:=h;by_cases d:l= []
 ·obtain rfl:=r d;subst d;have N:w.drew.cell? (b,1)=some (.slice none 0 0):=i.cell 1;have H:(Builtin.unsafeSliceData_ #[75] 219 #[nS]).run prog w.drew= .ok (.pointer none) w.drew:=Lib.run_unsafeSliceData_nil _ _ _ _ _;have L:(Builtin.unsafeString_ #[219,3] 9 #[.pointer none,(0:Int)]).run prog w.drew= .ok (.string .empty) w.drew:=Lib.run_unsafeString_none _ _ _ _ _;clear u i r;go_enter func121,ntmps121
  go_wp2;go_region
  all_goals(go_wp2;go_ret;exact⟨rfl,(zm B w).drew,fun _ _ h _=>h⟩)
 obtain⟨A,cap,rfl,D,U,K⟩:=u;have I:l.length≠0:=by simpa using d
 rcases K with⟨rfl,rfl⟩|⟨g,q,C,rfl,O,m,z,y,s⟩
 ·omega
 have N:w.drew.cell? (b,1)=some (.slice (some (g,0)) l.length cap):=i.cell 1;have H:(Builtin.unsafeSliceData_ #[75] 219 #[.slice (some (g,0)) l.length cap]).run prog w.drew= .ok (g,0) w.drew:=
  Lib.run_unsafeSliceData_row _ _ _ _ _ _ (by omega)
 have L:(Builtin.unsafeString_ #[219,3] 9 #[(g,0),l.length]).run prog w.drew= .ok (.string ⟨l.toArray⟩) (w.drew.freeze (g,0) l.length):=by
  refine Lib.run_unsafeString_row w.drew 219 3 9 5 underlying219 F3 g q.size (by have F:w.drew.heap[g]?=some (.cells q 5 C):=m;simp[World.shape?,F]) l d (by omega) (by omega) ?_;intro j x hx;have R:bP w base 5 (.slice (some (g,0)) l.length cap) l:=⟨_,cap,rfl,D,U,.inr ⟨g,q,C,rfl,O,m,z,y,s⟩⟩
  exact R.cells (g,0) rfl j (.int .u8 x.toNat) (by rw[EC,hx];rfl)
 have E:Hid (Below B w (w.drew.freeze (g,0) l.length)):=za (Lib.below_freeze (Below.drew (zm B w)) (p:=(g,0)) (by simp;omega) _);have S:Hid (∀(k:Nat) (o:Obj),w.heap[k]?=some o->o.isCells=false->(w.drew.freeze (g,0) l.length).heap[k]?=some o):=za (by
  intro k o c G;have M:k≠g:=by rintro rfl;rw[m]at c;injection c with c;subst c;cases G
  unfold World.freeze;split
  ·exact c
  simp only[ZC];rw[zi (fun e=>M e.symm)];exact c)
 clear m z y s i r J d I;generalize l.length=n at*;generalize (⟨l.toArray⟩:ByteArray)=X at*;go_enter func121,ntmps121
 go_wp2;go_region
 all_goals(go_wp2;go_ret;exact⟨rfl,E.out,S.out⟩)
