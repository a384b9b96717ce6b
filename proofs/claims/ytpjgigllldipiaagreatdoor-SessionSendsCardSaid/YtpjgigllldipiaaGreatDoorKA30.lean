/- strings.Builder with a Buf in it: copyCheck. -/
import Derived.Test.YtpjgigllldipiaaGreatDoorProg
import Derived.Test.YtpjgigllldipiaaGreatDoorKA1
import Derived.Shelf.Strings.Builder1
import Derived.WalkSpells
import Derived.RangeFuncOwn
import Derived.Shelf.RegionOpen
set_option linter.all false
set_option maxRecDepth 100000
set_option maxHeartbeats 1000000
namespace Go.Proofs.YtpjgigllldipiaaGreatDoor
open Go.RowKit
def zy:=@Tryz.underlying31
def zU:=@Tryz.underlying9
def yR:=@info_parts
theorem IX :(Tryz.prog.info? 5).map (fun i=>(i.zero,i.size,i.bytes))=some (some (.int .u8 0),1,1):=by kernel_rfl
theorem P6 :(Tryz.prog.info? 144).map (·.size)=some 2:=by kernel_rfl
theorem P7 :liesAt Tryz.prog (Tryz.prog).depth 144 (2/(Tryz.prog).cellsOf 144) 0 144 1=true:=by kernel_rfl
theorem FF :(Tryz.prog).cellsOf 5=1:=by kernel_rfl
theorem af.shape {w:World}{g:Nat}{t:TypeId}{b:Array Value}(h:af w g t b):w.shape? g=some (t,b.size):=by
 unfold af at h;simp[World.shape?,h]
def DM (w:World)(base b:Nat)(l:List UInt8):Prop:=b<base/\∃p v,af w b 144 #[p,v]/\(p= .pointer none\/p= .pointer (some ⟨b,0,none⟩))/\bJ w base 5 v l/\(l= []->v= .slice none 0 0)
theorem FG (b:Nat)(w:World)(p v:Value)(h:af w b 144 #[p,v])(n:p= .pointer none\/p= .pointer (some ⟨b,0,none⟩)):
 Calls Tryz.prog 181 #[.pointer (some ⟨b,0,none⟩)] w fun e w'=>e= .returned (.tuple #[])/\(w'=w\/w'=w.setCell ⟨b,0,none⟩ (.pointer (some ⟨b,0,none⟩)))/\af w' b 144 #[.pointer (some ⟨b,0,none⟩),v]:=by
 obtain⟨j,d,l⟩:=Option.map_eq_some_iff.1 P6;have i:w.shape? b=some (144,2):=h.shape;have c:=h.cell 0;have o:=h.frozen 0;have k:=za (h.set 0 (.pointer (some ⟨b,0,none⟩)));have m:=za h;clear h;rcases n with rfl|rfl
 ·replace c:w.cell? ⟨b,0,none⟩=some (.pointer none):=c;go_enter Tryz.func181,Tryz.ntmps181
  go_wp2;rw[Lib.run_to_unsafe w ⟨b,0,none⟩ Tryz.underlying142 Tryz.underlying248 d (by rw[l];decide) i (ZH 1)];simp only[Result.andThen];rw[Oper.upon_value];go_wp2;rw[run_callFunc_extern Tryz.func206 (by kernel_rfl) (by kernel_rfl) (by kernel_rfl) (e:=Extern.AbiNoEscape.same) (by kernel_rfl)];rw[Lib.run_noEscape];simp only[Result.andThen];rw[Oper.upon_value];go_wp2;rw[Lib.run_from_unsafe w ⟨b,0,none⟩ Tryz.underlying248 Tryz.underlying142 d i P7];simp only[Result.andThen];rw[Oper.upon_value];go_wp2;go_end0
  exact⟨rfl,.inr rfl,k.out⟩
 replace c:w.cell? ⟨b,0,none⟩=some (.pointer (some ⟨b,0,none⟩)):=c;go_enter Tryz.func181,Tryz.ntmps181
 go_wp2;rw[Lib.run_neq_ptr_same w _ Tryz.underlying142 d];go_wp2;go_end0
 exact⟨rfl,.inl rfl,m.out⟩
structure cS (E:TypeId)(base b:Nat)(w w':World):Prop where
 os:w'.os=w.os
 tape:w'.tape=w.tape
 output:w'.output=w.output
 size:w.heap.size<=w'.heap.size
 block:∀k,k<base->k≠b->w'.heap[k]?=w.heap[k]?
 other:∀(k:Nat) (o:Obj),w.heap[k]?=some o->k≠b->(∀cs fr,o≠Obj.cells cs E fr)->w'.heap[k]?=some o
theorem cS.refl (E:TypeId)(base b:Nat)(w:World):cS E base b w w:=⟨rfl,rfl,rfl,zi _,fun _ _ _=>rfl,fun _ _ h _ _=>h⟩
theorem cS.trans {E:TypeId}{base b:Nat}{x y z:World}(h:cS E base b x y)(k:cS E base b y z):cS E base b x z:=
 ⟨k.os.trans h.os,k.tape.trans h.tape,k.output.trans h.output,zP h.size k.size,fun i hi c=>(k.block i hi c).trans (h.block i hi c),fun i o hi c d=>k.other i o (h.other i o hi c d) c d⟩
theorem Kept.b {E:TypeId}{base:Nat}{w w':World}(h:Kept E base w w')(b:Nat):cS E base b w w':=
 ⟨h.below.os,h.below.tape,h.below.output,h.below.size,fun k c _=>h.below.block k c,fun k o c _ d=>h.other k o c d⟩
theorem cS.setCell (E:TypeId)(base b i:Nat)(w:World)(v:Value):cS E base b w (w.setCell ⟨b,i,none⟩ v):=
 ⟨rfl,rfl,rfl,by simp[World.setCell],fun k _ c=>zY w ⟨b,i,none⟩ v k c,fun k o d c _=>(zY w ⟨b,i,none⟩ v k c).trans d⟩
theorem cS.below {E:TypeId}{base b B:Nat}{w w':World}(h:cS E base b w w')(d:B<=base)(c:B<=b):Below B w w':=
 ⟨h.os,h.tape,h.output,h.size,fun k e=>h.block k (by omega) (by omega)⟩
theorem cS.kept {E:TypeId}{base b B:Nat}{w w':World}(h:cS E base b w w')(i:B<=base)(d:B<=b)(j:w.heap.size<=b):Kept E B w w':=
 ⟨h.below i d,fun k o c e=>h.other k o c (by have:=(yj.1 c).1;omega) e⟩
theorem cS.blk {E:TypeId}{base b g:Nat}{w w':World}{t:TypeId}{d:Array Value}(i:cS E base b w w')(h:af w g t d)(j:g≠b)(k:t≠E):af w' g t d:=
 i.other g _ h j (by intro c f e;injection e with _ e2;exact k e2)
theorem bJ.abO {w:World}{base:Nat}{E:TypeId}{v:Value}{l:List UInt8}(h:bJ w base E v l){b:Nat}(c:b<base)(i:Nat)(u:Value):bJ (w.setCell ⟨b,i,none⟩ u) base E v l:=
 h.of_heap fun k d _=>zY w ⟨b,i,none⟩ u k (by simp;omega)
theorem vH (b base:Nat)(w:World)(l:List UInt8)(s:ByteArray)(h:DM w base b l)(G:l++s.data.toList≠ [])(S:base<=w.heap.size)(N:l.length+s.size<=1099511627776):
 Calls Tryz.prog 139 #[.pointer (some ⟨b,0,none⟩),.string s] w fun e w'=>e= .returned (.tuple #[.int .i64 s.size,.nilIface])/\DM w' base b (l++s.data.toList)/\cS 5 base b w w':=by
 obtain⟨i0,hi,M,H,C⟩:=yR IX;obtain⟨j,p,v,m,L,o,_⟩:=h;have Z:=m.lt;have K:=za (FG b w p v m L);obtain⟨r,y,rfl,O,Y⟩:=o.form;have k:=za o;clear o m;go_enter Tryz.func139,Tryz.ntmps139
 go_wp2_with fail
 refine K.out.mono ?_;rintro e x ⟨rfl,z,u⟩;have A:Hid (cS 5 base b w x):=za (by rcases z with rfl|rfl;exact cS.refl _ _ _ _;exact cS.setCell _ _ _ _ _ _);have F:Hid (bJ x base 5 (.slice r l.length y) l):=za (by rcases z with rfl|rfl;exact k.out;exact k.out.abO j 0 _);have U:=A.out.size;clear z k;have W:x.cell? ⟨b,1,none⟩=some (.slice r l.length y):=u.cell 1;have I:=za u;clear u;have D:144≠5:=by decide
 go_wp2_with (at_builtin;refine aN (by rfl) (.tmp 12) (.tmp 13) 31 9 (by rfl) base 5 i0 zy hi M H C (by rfl) F.out _ s.data.toList (by rfl) (iY zU _ s) (by omega) (by rw[aa];omega) ?_;intro d n2 i q B n;have c:=I.out.kept n D;have R:=c.frozen 1;have X:q.cell? ⟨b,1,none⟩=some (.slice r l.length y):=c.cell 1;have J:Hid (DM (q.setCell ⟨b,1,none⟩ (.slice d n2 i)) base b (l++s.data.toList)):=za ⟨j,.pointer (some ⟨b,0,none⟩),.slice d n2 i,c.set 1 _,.inr rfl,B.abO j 1 _,fun h=>absurd h G⟩;have E:Hid (cS 5 base b w (q.setCell ⟨b,1,none⟩ (.slice d n2 i))):=za ((A.out.trans (n.b b)).trans (cS.setCell _ _ _ _ _ _));clear B n c)
 go_ret2
 exact⟨rfl,J.out,E.out⟩
theorem lG (b base:Nat)(w:World)(l:List UInt8)(s:ByteArray)(h:DM w base b l)(c:s.data.toList≠ [])(d:base<=w.heap.size)(i:l.length+s.size<=1099511627776):
 Calls Tryz.prog 139 #[.pointer (some ⟨b,0,none⟩),.string s] w fun e w'=>e= .returned (.tuple #[.int .i64 s.size,.nilIface])/\DM w' base b (l++s.data.toList)/\cS 5 base b w w':=
 vH b base w l s h (fun e=>c (List.append_eq_nil_iff.1 e).2) d i
theorem FH (b base:Nat)(w:World)(l:List UInt8)(h:DM w base b l)(Y:l.length<=1099511627776)(B:Nat)(Z:B<=base):
 Calls Tryz.prog 99 #[.pointer (some ⟨b,0,none⟩)] w fun e w'=>e= .returned (.string ⟨l.toArray⟩)/\Below B w w'/\(∀(k:Nat) (o:Obj),w.heap[k]?=some o->o.isCells=false->w'.heap[k]?=some o):=by
 obtain⟨W,p,v,m,I,y,r⟩:=h;by_cases d:l= []
 ·obtain rfl:=r d;subst d;have S:w.drew.cell? ⟨b,1,none⟩=some (.slice none 0 0):=m.cell 1;have F:(Builtin.unsafeSliceData_ #[31] 193 #[.slice none 0 0]).run Tryz.prog w.drew= .ok (.pointer none) w.drew:=Lib.run_unsafeSliceData_nil _ _ _ _ _;have R:(Builtin.unsafeString_ #[193,3] 9 #[.pointer none,.int .i64 0]).run Tryz.prog w.drew= .ok (.string .empty) w.drew:=Lib.run_unsafeString_none _ _ _ _ _;clear y m r;go_enter Tryz.func99,Tryz.ntmps99
  go_wp2;go_region
  all_goals(go_wp2;go_ret;exact⟨rfl,(zq B w).drew,fun _ _ h _=>h⟩)
 obtain⟨A,cap,rfl,O,N,E⟩:=y;have J:l.length≠0:=by simpa using d
 rcases E with⟨rfl,rfl⟩|⟨g,q,C,rfl,K,i,u,z,s⟩
 ·omega
 have S:w.drew.cell? ⟨b,1,none⟩=some (.slice (some ⟨g,0,none⟩) l.length cap):=m.cell 1;have F:(Builtin.unsafeSliceData_ #[31] 193 #[.slice (some ⟨g,0,none⟩) l.length cap]).run Tryz.prog w.drew= .ok (.pointer (some ⟨g,0,none⟩)) w.drew:=
  Lib.run_unsafeSliceData_row _ _ _ _ _ _ (by omega)
 have R:(Builtin.unsafeString_ #[193,3] 9 #[.pointer (some ⟨g,0,none⟩),.int .i64 l.length]).run Tryz.prog w.drew= .ok (.string ⟨l.toArray⟩) (w.drew.freeze ⟨g,0,none⟩ l.length):=by
  refine Lib.run_unsafeString_row w.drew 193 3 9 5 Tryz.underlying193 FF g q.size (by have L:w.drew.heap[g]?=some (.cells q 5 C):=i;simp[World.shape?,L]) l d (by omega) (by omega) ?_;intro j x hx;have D:bJ w base 5 (.slice (some ⟨g,0,none⟩) l.length cap) l:=⟨_,cap,rfl,O,N,.inr ⟨g,q,C,rfl,K,i,u,z,s⟩⟩
  exact D.cells ⟨g,0,none⟩ rfl j (.int .u8 x.toNat) (by rw[El,hx];rfl)
 have G:Hid (Below B w (w.drew.freeze ⟨g,0,none⟩ l.length)):=za (Lib.below_freeze (Below.drew (zq B w)) (p:=⟨g,0,none⟩) (by simp;omega) _);have H:Hid (∀(k:Nat) (o:Obj),w.heap[k]?=some o->o.isCells=false->(w.drew.freeze ⟨g,0,none⟩ l.length).heap[k]?=some o):=za (by
  intro k o c M;have U:k≠g:=by rintro rfl;rw[i]at c;injection c with c;subst c;cases M
  unfold World.freeze;split
  ·exact c
  simp only[ZG];rw[zj (fun e=>U e.symm)];exact c)
 clear i u z s m r I d J;generalize l.length=n at*;generalize (⟨l.toArray⟩:ByteArray)=X at*;go_enter Tryz.func99,Tryz.ntmps99
 go_wp2;go_region
 all_goals(go_wp2;go_ret;exact⟨rfl,G.out,H.out⟩)
