/- strings.Builder with a Buf in it: copyCheck. -/
import Derived.Test.YtpjgigllldipiaaGreatDoorProg
import Derived.Test.YtpjgigllldipiaaGreatDoorKA1
import Derived.Shelf.Strings.Builder1
import Derived.WalkSpells
import Derived.RangeFuncOwn
import Derived.Shelf.RegionOpen
set_option linter.all false
set_option maxRecDepth 100000
set_option maxHeartbeats 1000000
namespace Go.Proofs.YtpjgigllldipiaaGreatDoor
open Tryz
open Go.RowKit
def zy:=@underlying31
def zP:=@underlying9
def yU:=@info_parts
theorem IF :(prog.info? 5).map (fun i=>(i.zero,i.size,i.bytes))=some (some (.int .u8 0),1,1):=by kernel_rfl
theorem PK :(prog.info? 144).map (·.size)=some 2:=by kernel_rfl
theorem PL :liesAt prog (prog).depth 144 (2/(prog).cellsOf 144) 0 144 1=true:=by kernel_rfl
theorem Fy :(prog).cellsOf 5=1:=by kernel_rfl
theorem af.shape {w:World}{g:Nat}{t:TypeId}{b:Array Value}(h:af w g t b):w.shape? g=some (t,b.size):=by
 unfold af at h;simp[World.shape?,h]
def DD (w:World)(base b:Nat)(l:List UInt8):Prop:=b<base/\∃p v,af w b 144 #[p,v]/\(p= .pointer none\/p= .pointer (some ⟨b,0,none⟩))/\bJ w base 5 v l/\(l= []->v= .slice none 0 0)
theorem Fz (b:Nat)(w:World)(p v:Value)(h:af w b 144 #[p,v])(m:p= .pointer none\/p= .pointer (some ⟨b,0,none⟩)):
 Calls prog 181 #[.pointer (some ⟨b,0,none⟩)] w fun e w'=>e= .returned (.tuple #[])/\(w'=w\/w'=w.setCell ⟨b,0,none⟩ (.pointer (some ⟨b,0,none⟩)))/\af w' b 144 #[.pointer (some ⟨b,0,none⟩),v]:=by
 obtain⟨j,d,n⟩:=Option.map_eq_some_iff.1 PK;have i:w.shape? b=some (144,2):=h.shape;have c:=h.cell 0;have o:=h.frozen 0;have l:=za (h.set 0 (.pointer (some ⟨b,0,none⟩)));have k:=za h;clear h;rcases m with rfl|rfl
 ·replace c:w.cell? ⟨b,0,none⟩=some (.pointer none):=c;go_enter func181,ntmps181
  go_wp2;rw[Lib.run_to_unsafe w ⟨b,0,none⟩ underlying142 underlying248 d (by rw[n];decide) i (ZI 1)];simp only[Result.andThen];rw[Oper.upon_value];go_wp2;rw[run_callFunc_extern func206 (by kernel_rfl) (by kernel_rfl) (by kernel_rfl) (e:=Extern.AbiNoEscape.same) (by kernel_rfl)];rw[Lib.run_noEscape];simp only[Result.andThen];rw[Oper.upon_value];go_wp2;rw[Lib.run_from_unsafe w ⟨b,0,none⟩ underlying248 underlying142 d i PL];simp only[Result.andThen];rw[Oper.upon_value];go_wp2;go_end0
  exact⟨rfl,.inr rfl,l.out⟩
 replace c:w.cell? ⟨b,0,none⟩=some (.pointer (some ⟨b,0,none⟩)):=c;go_enter func181,ntmps181
 go_wp2;rw[Lib.run_neq_ptr_same w _ underlying142 d];go_wp2;go_end0
 exact⟨rfl,.inl rfl,k.out⟩
structure cP (E:TypeId)(base b:Nat)(w w':World):Prop where
 os:w'.os=w.os
 tape:w'.tape=w.tape
 output:w'.output=w.output
 size:w.heap.size<=w'.heap.size
 block:∀k,k<base->k≠b->w'.heap[k]?=w.heap[k]?
 other:∀(k:Nat) (o:Obj),w.heap[k]?=some o->k≠b->(∀cs fr,o≠Obj.cells cs E fr)->w'.heap[k]?=some o
theorem cP.refl (E:TypeId)(base b:Nat)(w:World):cP E base b w w:=⟨rfl,rfl,rfl,zf _,fun _ _ _=>rfl,fun _ _ h _ _=>h⟩
theorem cP.trans {E:TypeId}{base b:Nat}{x y z:World}(h:cP E base b x y)(k:cP E base b y z):cP E base b x z:=
 ⟨k.os.trans h.os,k.tape.trans h.tape,k.output.trans h.output,zK h.size k.size,fun i hi c=>(k.block i hi c).trans (h.block i hi c),fun i o hi c d=>k.other i o (h.other i o hi c d) c d⟩
theorem Kept.b {E:TypeId}{base:Nat}{w w':World}(h:Kept E base w w')(b:Nat):cP E base b w w':=
 ⟨h.below.os,h.below.tape,h.below.output,h.below.size,fun k c _=>h.below.block k c,fun k o c _ d=>h.other k o c d⟩
theorem cP.setCell (E:TypeId)(base b i:Nat)(w:World)(v:Value):cP E base b w (w.setCell ⟨b,i,none⟩ v):=
 ⟨rfl,rfl,rfl,by simp[World.setCell],fun k _ c=>zY w ⟨b,i,none⟩ v k c,fun k o d c _=>(zY w ⟨b,i,none⟩ v k c).trans d⟩
theorem cP.below {E:TypeId}{base b B:Nat}{w w':World}(h:cP E base b w w')(e:B<=base)(c:B<=b):Below B w w':=
 ⟨h.os,h.tape,h.output,h.size,fun k d=>h.block k (by omega) (by omega)⟩
theorem cP.kept {E:TypeId}{base b B:Nat}{w w':World}(h:cP E base b w w')(i:B<=base)(d:B<=b)(j:w.heap.size<=b):Kept E B w w':=
 ⟨h.below i d,fun k o c e=>h.other k o c (by have:=(yl.1 c).1;omega) e⟩
theorem cP.blk {E:TypeId}{base b g:Nat}{w w':World}{t:TypeId}{d:Array Value}(i:cP E base b w w')(h:af w g t d)(k:g≠b)(j:t≠E):af w' g t d:=
 i.other g _ h k (by intro c f e;injection e with _ e2;exact j e2)
theorem bJ.abl {w:World}{base:Nat}{E:TypeId}{v:Value}{l:List UInt8}(h:bJ w base E v l){b:Nat}(c:b<base)(i:Nat)(u:Value):bJ (w.setCell ⟨b,i,none⟩ u) base E v l:=
 h.of_heap fun k d _=>zY w ⟨b,i,none⟩ u k (by simp;omega)
theorem vw (b base:Nat)(w:World)(l:List UInt8)(s:ByteArray)(h:DD w base b l)(I:l++s.data.toList≠ [])(X:base<=w.heap.size)(S:l.length+s.size<=1099511627776):
 Calls prog 139 #[.pointer (some ⟨b,0,none⟩),.string s] w fun e w'=>e= .returned (.tuple #[.int .i64 s.size,.nilIface])/\DD w' base b (l++s.data.toList)/\cP 5 base b w w':=by
 obtain⟨i0,hi,D,K,H⟩:=yU IF;obtain⟨y,p,v,o,F,k,_⟩:=h;have O:=o.lt;have C:=za (Fz b w p v o F);obtain⟨n,m,rfl,U,W⟩:=k.form;have x:=za k;clear k o;go_enter func139,ntmps139
 go_wp2_with fail
 refine C.out.mono ?_;rintro e d ⟨rfl,z,q⟩;have B:Hid (cP 5 base b w d):=za (by rcases z with rfl|rfl;exact cP.refl _ _ _ _;exact cP.setCell _ _ _ _ _ _);have J:Hid (bJ d base 5 (.slice n l.length m) l):=za (by rcases z with rfl|rfl;exact x.out;exact x.out.abl y 0 _);have R:=B.out.size;clear z x;have N:d.cell? ⟨b,1,none⟩=some (.slice n l.length m):=q.cell 1;have G:=za q;clear q;have M:144≠5:=by decide
 go_wp2_with (at_builtin;refine aN (by rfl) (.tmp 12) (.tmp 13) 31 9 (by rfl) base 5 i0 zy hi D K H (by rfl) J.out _ s.data.toList (by rfl) (iS zP _ s) (by omega) (by rw[aa];omega) ?_;intro u n2 i r A j;have c:=G.out.kept j M;have Z:=c.frozen 1;have Y:r.cell? ⟨b,1,none⟩=some (.slice n l.length m):=c.cell 1;have E:Hid (DD (r.setCell ⟨b,1,none⟩ (.slice u n2 i)) base b (l++s.data.toList)):=za ⟨y,.pointer (some ⟨b,0,none⟩),.slice u n2 i,c.set 1 _,.inr rfl,A.abl y 1 _,fun h=>absurd h I⟩;have L:Hid (cP 5 base b w (r.setCell ⟨b,1,none⟩ (.slice u n2 i))):=za ((B.out.trans (j.b b)).trans (cP.setCell _ _ _ _ _ _));clear A j c)
 go_ret2
 exact⟨rfl,E.out,L.out⟩
theorem lC (b base:Nat)(w:World)(l:List UInt8)(s:ByteArray)(h:DD w base b l)(c:s.data.toList≠ [])(d:base<=w.heap.size)(i:l.length+s.size<=1099511627776):
 Calls prog 139 #[.pointer (some ⟨b,0,none⟩),.string s] w fun e w'=>e= .returned (.tuple #[.int .i64 s.size,.nilIface])/\DD w' base b (l++s.data.toList)/\cP 5 base b w w':=
 vw b base w l s h (fun e=>c (List.append_eq_nil_iff.1 e).2) d i
theorem FA (b base:Nat)(w:World)(l:List UInt8)(h:DD w base b l)(W:l.length<=1099511627776)(B:Nat)(Y:B<=base):
 Calls prog 99 #[.pointer (some ⟨b,0,none⟩)] w fun e w'=>e= .returned (.string ⟨l.toArray⟩)/\Below B w w'/\(∀(k:Nat) (o:Obj),w.heap[k]?=some o->o.isCells=false->w'.heap[k]?=some o):=by
 obtain⟨Z,p,v,m,I,s,q⟩:=h;by_cases d:l= []
 ·obtain rfl:=q d;subst d;have J:w.drew.cell? ⟨b,1,none⟩=some (.slice none 0 0):=m.cell 1;have L:(Builtin.unsafeSliceData_ #[31] 193 #[.slice none 0 0]).run prog w.drew= .ok (.pointer none) w.drew:=Lib.run_unsafeSliceData_nil _ _ _ _ _;have M:(Builtin.unsafeString_ #[193,3] 9 #[.pointer none,.int .i64 0]).run prog w.drew= .ok (.string .empty) w.drew:=Lib.run_unsafeString_none _ _ _ _ _;clear s m q;go_enter func99,ntmps99
  go_wp2;go_region
  all_goals(go_wp2;go_ret;exact⟨rfl,(zq B w).drew,fun _ _ h _=>h⟩)
 obtain⟨A,cap,rfl,N,R,G⟩:=s;have E:l.length≠0:=by simpa using d
 rcases G with⟨rfl,rfl⟩|⟨g,r,y,rfl,D,i,z,u,C⟩
 ·omega
 have J:w.drew.cell? ⟨b,1,none⟩=some (.slice (some ⟨g,0,none⟩) l.length cap):=m.cell 1;have L:(Builtin.unsafeSliceData_ #[31] 193 #[.slice (some ⟨g,0,none⟩) l.length cap]).run prog w.drew= .ok (.pointer (some ⟨g,0,none⟩)) w.drew:=
  Lib.run_unsafeSliceData_row _ _ _ _ _ _ (by omega)
 have M:(Builtin.unsafeString_ #[193,3] 9 #[.pointer (some ⟨g,0,none⟩),.int .i64 l.length]).run prog w.drew= .ok (.string ⟨l.toArray⟩) (w.drew.freeze ⟨g,0,none⟩ l.length):=by
  refine Lib.run_unsafeString_row w.drew 193 3 9 5 underlying193 Fy g r.size (by have O:w.drew.heap[g]?=some (.cells r 5 y):=i;simp[World.shape?,O]) l d (by omega) (by omega) ?_;intro j x hx;have K:bJ w base 5 (.slice (some ⟨g,0,none⟩) l.length cap) l:=⟨_,cap,rfl,N,R,.inr ⟨g,r,y,rfl,D,i,z,u,C⟩⟩
  exact K.cells ⟨g,0,none⟩ rfl j (.int .u8 x.toNat) (by rw[Ed,hx];rfl)
 have H:Hid (Below B w (w.drew.freeze ⟨g,0,none⟩ l.length)):=za (Lib.below_freeze (Below.drew (zq B w)) (p:=⟨g,0,none⟩) (by simp;omega) _);have S:Hid (∀(k:Nat) (o:Obj),w.heap[k]?=some o->o.isCells=false->(w.drew.freeze ⟨g,0,none⟩ l.length).heap[k]?=some o):=za (by
  intro k o c F;have U:k≠g:=by rintro rfl;rw[i]at c;injection c with c;subst c;cases F
  unfold World.freeze;split
  ·exact c
  simp only[ZH];rw[zj (fun e=>U e.symm)];exact c)
 clear i z u C m q I d E;generalize l.length=n at*;generalize (⟨l.toArray⟩:ByteArray)=X at*;go_enter func99,ntmps99
 go_wp2;go_region
 all_goals(go_wp2;go_ret;exact⟨rfl,H.out,S.out⟩)
