/- coin.Next. -/
import Derived.Test.YtpjgigllldipiaaGreatDoorKA16
set_option linter.all false
set_option maxRecDepth 100000
set_option maxHeartbeats 4000000
namespace Go.Proofs.YtpjgigllldipiaaGreatDoor
open Go.RowKit
def xu:=@Tryz.results70
structure cz (m:Nat)(most:Int)(s nm:ByteArray)(ln k:Nat):Prop where
 q0:1<=k->4<=s.size
 q1:2<=k->s.extract 0 4=qG m
 q2:3<=k->16<=s.size
 q3:4<=k->cW (s.extract 4 16)=(0,nm)
 q4:5<=k->20<=s.size
 q5:6<=k->ln=cZ (s.extract 16 20).data.toList/\(ln:Int)<=most
 q6:7<=k->24<=s.size
 q7:8<=k->24+ln<=s.size
 q8:9<=k->eR (s.extract 24 (24+ln))=s.extract 20 24
structure KP (w:World)(b m:Nat)(most:Int)(s nm:ByteArray)(ln:Nat):Prop where
 mg:af w b 22 #[.int .u32 m]
 mo:af w (b+1) 3 #[.int .i64 most]
 tx:af w (b+1+1) 9 #[.string s]
 fr:af w (b+1+1+1) 74 #[.int .u64 0,.string ⟨#[]⟩,.string ⟨#[]⟩]
 na:af w (b+1+1+1+1) 9 #[.string nm]
 le:af w (b+1+1+1+1+1) 3 #[.int .i64 ln]
 nu:af w (b+1+1+1+1+1+1) 156 #[U6 (b+1+1)]
 k1:af w (b+1+1+1+1+1+1+1) 3 #[.int .i64 (4:Nat)]
 k2:af w (b+1+1+1+1+1+1+1+1) 3 #[.int .i64 (16:Nat)]
 k3:af w (b+1+1+1+1+1+1+1+1+1) 3 #[.int .i64 (20:Nat)]
 k4:af w (b+1+1+1+1+1+1+1+1+1+1) 3 #[.int .i64 (24:Nat)]
theorem KP.KQ {w w':World}{b m:Nat}{most:Int}{s nm:ByteArray}{d:Nat}(h:KP w b m most s nm d)(c:∀k,k<w.heap.size->w'.heap[k]?=w.heap[k]?):KP w' b m most s nm d:=
 ⟨(c _ h.mg.lt).trans h.mg,(c _ h.mo.lt).trans h.mo,(c _ h.tx.lt).trans h.tx,(c _ h.fr.lt).trans h.fr,(c _ h.na.lt).trans h.na,(c _ h.le.lt).trans h.le,(c _ h.nu.lt).trans h.nu,(c _ h.k1.lt).trans h.k1,(c _ h.k2.lt).trans h.k2,(c _ h.k3.lt).trans h.k3,(c _ h.k4.lt).trans h.k4⟩
theorem KP.name {w:World}{b m:Nat}{most:Int}{s nm:ByteArray}{d:Nat}(h:KP w b m most s nm d)(c:ByteArray):KP (w.setCell ⟨b+1+1+1+1,0,none⟩ (.string c)) b m most s c d:=
 ⟨h.mg.dz (by intro e;dsimp only at e;omega) _,h.mo.dz (by intro e;dsimp only at e;omega) _,h.tx.dz (by intro e;dsimp only at e;omega) _,h.fr.dz (by intro e;dsimp only at e;omega) _,one_setCell h.na,h.le.dz (by intro e;dsimp only at e;omega) _,h.nu.dz (by intro e;dsimp only at e;omega) _,h.k1.dz (by intro e;dsimp only at e;omega) _,h.k2.dz (by intro e;dsimp only at e;omega) _,h.k3.dz (by intro e;dsimp only at e;omega) _,h.k4.dz (by intro e;dsimp only at e;omega) _⟩
theorem KP.len {w:World}{b m:Nat}{most:Int}{s nm:ByteArray}{d:Nat}(h:KP w b m most s nm d)(c:Nat):KP (w.setCell ⟨b+1+1+1+1+1,0,none⟩ (.int .i64 c)) b m most s nm c:=
 ⟨h.mg.dz (by intro e;dsimp only at e;omega) _,h.mo.dz (by intro e;dsimp only at e;omega) _,h.tx.dz (by intro e;dsimp only at e;omega) _,h.fr.dz (by intro e;dsimp only at e;omega) _,h.na.dz (by intro e;dsimp only at e;omega) _,one_setCell h.le,h.nu.dz (by intro e;dsimp only at e;omega) _,h.k1.dz (by intro e;dsimp only at e;omega) _,h.k2.dz (by intro e;dsimp only at e;omega) _,h.k3.dz (by intro e;dsimp only at e;omega) _,h.k4.dz (by intro e;dsimp only at e;omega) _⟩
theorem cz.zero {m:Nat}{most:Int}{s nm:ByteArray}{b:Nat}:cz m most s nm b 0:=⟨by omega,by omega,by omega,by omega,by omega,by omega,by omega,by omega,by omega⟩
theorem cz.no0 {m:Nat}{most:Int}{s:ByteArray}(h:¬4<=s.size):aX m most s=(2,ByteArray.empty,ByteArray.empty,0):=by rw[fj,zl (by omega)]
theorem cz.no1 {m:Nat}{most:Int}{s nm:ByteArray}{c:Nat}(k:cz m most s nm c 1)(b:m<4294967296)(h:cZ (s.extract 0 4).data.toList≠m):aX m most s=(9,ByteArray.empty,ByteArray.empty,0):=by
 have:=k.q0 (by omega);rw[fj,zj (by omega),zl];intro e;exact h ((OI _ _ (an _ _ _ (by omega)) b).1 e)
theorem cz.no2 {m:Nat}{most:Int}{s nm:ByteArray}{b:Nat}(k:cz m most s nm b 2)(h:¬16<=s.size):aX m most s=(2,ByteArray.empty,ByteArray.empty,0):=by
 have:=k.q0 (by omega);rw[fj,zj (by omega),zj (by simpa using k.q1 (by omega)),zl (by omega)]
theorem cz.no3 {m:Nat}{most:Int}{s nm:ByteArray}{b:Nat}(k:cz m most s nm b 3)(h:cW (s.extract 4 16)=(3,ByteArray.empty)):aX m most s=(3,ByteArray.empty,ByteArray.empty,0):=by
 have:=k.q2 (by omega);rw[fj,zj (by omega),zj (by simpa using k.q1 (by omega)),zj (by omega),zl (by rw[h];simp)]
theorem cz.no4 {m:Nat}{most:Int}{s nm:ByteArray}{b:Nat}(k:cz m most s nm b 4)(h:¬20<=s.size):aX m most s=(2,ByteArray.empty,ByteArray.empty,0):=by
 have:=k.q2 (by omega);rw[fj,zj (by omega),zj (by simpa using k.q1 (by omega)),zj (by omega),zj (by rw[k.q3 (by omega)];simp),zl (by omega)]
theorem cz.no5 {m:Nat}{most:Int}{s nm:ByteArray}{b:Nat}(k:cz m most s nm b 5)(h:¬(cZ (s.extract 16 20).data.toList:Int)<=most):aX m most s=(5,ByteArray.empty,ByteArray.empty,0):=by
 have:=k.q4 (by omega);rw[fj,zj (by omega),zj (by simpa using k.q1 (by omega)),zj (by omega),zj (by rw[k.q3 (by omega)];simp),zj (by omega),zl (by omega)]
theorem cz.no7 {m:Nat}{most:Int}{s nm:ByteArray}{b:Nat}(k:cz m most s nm b 6)(h:¬24+b<=s.size):aX m most s=(2,ByteArray.empty,ByteArray.empty,0):=by
 have:=k.q4 (by omega);obtain⟨e,c⟩:=k.q5 (by omega);rw[e]at c h;rw[fj,zj (by omega),zj (by simpa using k.q1 (by omega)),zj (by omega),zj (by rw[k.q3 (by omega)];simp),zj (by omega),zj (by omega),zl (by omega)]
theorem cz.afR {m:Nat}{most:Int}{s nm:ByteArray}{b:Nat}(k:cz m most s nm b 7)(h:¬24+b<=s.size):aX m most s=(2,ByteArray.empty,ByteArray.empty,0):=
 cz.no7 ⟨k.q0∘fun _=>by omega,k.q1∘fun _=>by omega,k.q2∘fun _=>by omega,k.q3∘fun _=>by omega,k.q4∘fun _=>by omega,k.q5∘fun _=>by omega,by omega,by omega,by omega⟩ h
theorem cz.no8 {m:Nat}{most:Int}{s nm:ByteArray}{b:Nat}(k:cz m most s nm b 8)(h:¬eR (s.extract 24 (24+b))=s.extract 20 24):aX m most s=(10,ByteArray.empty,ByteArray.empty,0):=by
 have:=k.q4 (by omega);have c:=k.q7 (by omega);obtain⟨e,d⟩:=k.q5 (by omega);rw[e]at d h c;rw[fj,zj (by omega),zj (by simpa using k.q1 (by omega)),zj (by omega),zj (by rw[k.q3 (by omega)];simp),zj (by omega),zj (by omega),zj (by omega),zl h]
theorem cz.yes {m:Nat}{most:Int}{s nm:ByteArray}{b:Nat}(k:cz m most s nm b 9):aX m most s=(0,nm,s.extract 24 (24+b),24+b):=by
 have:=k.q4 (by omega);have d:=k.q7 (by omega);have c:=k.q8 (by omega);obtain⟨e,h⟩:=k.q5 (by omega);rw[e]at h d c⊢;rw[fj,zj (by omega),zj (by simpa using k.q1 (by omega)),zj (by omega),zj (by rw[k.q3 (by omega)];simp),zj (by omega),zj (by omega),zj (by omega),zj (by simpa using c),k.q3 (by omega)]
theorem cz.st0 {m:Nat}{most:Int}{s nm:ByteArray}{b:Nat}(h:cz m most s nm b 0)(c:4<=s.size):cz m most s nm b 1:=⟨fun _=>c,by omega,by omega,by omega,by omega,by omega,by omega,by omega,by omega⟩
theorem cz.fF {m:Nat}{most:Int}{s nm:ByteArray}{b:Nat}(h:cz m most s nm b 1)(c:s.extract 0 4=qG m):cz m most s nm b 2:=⟨fun _=>h.q0 (by omega),fun _=>c,by omega,by omega,by omega,by omega,by omega,by omega,by omega⟩
theorem cz.Sc {m:Nat}{most:Int}{s nm:ByteArray}{b:Nat}(h:cz m most s nm b 2)(c:16<=s.size):cz m most s nm b 3:=⟨fun _=>h.q0 (by omega),fun _=>h.q1 (by omega),fun _=>c,by omega,by omega,by omega,by omega,by omega,by omega⟩
theorem cz.st3 {m:Nat}{most:Int}{s nm b:ByteArray}{c:Nat}(h:cz m most s nm c 3)(d:cW (s.extract 4 16)=(0,b)):cz m most s b c 4:=⟨fun _=>h.q0 (by omega),fun _=>h.q1 (by omega),fun _=>h.q2 (by omega),fun _=>d,by omega,by omega,by omega,by omega,by omega⟩
theorem cz.st4 {m:Nat}{most:Int}{s nm:ByteArray}{b:Nat}(h:cz m most s nm b 4)(c:20<=s.size):cz m most s nm b 5:=⟨fun _=>h.q0 (by omega),fun _=>h.q1 (by omega),fun _=>h.q2 (by omega),fun _=>h.q3 (by omega),fun _=>c,by omega,by omega,by omega,by omega⟩
theorem cz.st5 {m:Nat}{most:Int}{s nm:ByteArray}{c:Nat}(h:cz m most s nm c 5)(b:(cZ (s.extract 16 20).data.toList:Int)<=most):cz m most s nm (cZ (s.extract 16 20).data.toList) 6:=⟨fun _=>h.q0 (by omega),fun _=>h.q1 (by omega),fun _=>h.q2 (by omega),fun _=>h.q3 (by omega),fun _=>h.q4 (by omega),fun _=>⟨rfl,b⟩,by omega,by omega,by omega⟩
theorem cz.st6 {m:Nat}{most:Int}{s nm:ByteArray}{b:Nat}(h:cz m most s nm b 6)(c:24<=s.size):cz m most s nm b 7:=⟨fun _=>h.q0 (by omega),fun _=>h.q1 (by omega),fun _=>h.q2 (by omega),fun _=>h.q3 (by omega),fun _=>h.q4 (by omega),fun _=>h.q5 (by omega),fun _=>c,by omega,by omega⟩
theorem cz.st7 {m:Nat}{most:Int}{s nm:ByteArray}{b:Nat}(h:cz m most s nm b 7)(c:24+b<=s.size):cz m most s nm b 8:=⟨fun _=>h.q0 (by omega),fun _=>h.q1 (by omega),fun _=>h.q2 (by omega),fun _=>h.q3 (by omega),fun _=>h.q4 (by omega),fun _=>h.q5 (by omega),fun _=>h.q6 (by omega),fun _=>c,by omega⟩
theorem cz.st8 {m:Nat}{most:Int}{s nm:ByteArray}{b:Nat}(h:cz m most s nm b 8)(c:eR (s.extract 24 (24+b))=s.extract 20 24):cz m most s nm b 9:=⟨fun _=>h.q0 (by omega),fun _=>h.q1 (by omega),fun _=>h.q2 (by omega),fun _=>h.q3 (by omega),fun _=>h.q4 (by omega),fun _=>h.q5 (by omega),fun _=>h.q6 (by omega),fun _=>h.q7 (by omega),fun _=>c⟩
theorem bO (j h k l m d b e c:Value)(w:World)(i:Nat)(hi:i<9):
 (Instr.index 160 (.agg #[j,h,k,l,m,d,b,e,c]) (.int .i64 i)).run Tryz.prog w= .ok (#[j,h,k,l,m,d,b,e,c].getD i undef) w:=by
 have hd:=Tryz.underlying160;have n:i=0\/i=1\/i=2\/i=3\/i=4\/i=5\/i=6\/i=7\/i=8:=by omega
 rcases n with rfl|rfl|rfl|rfl|rfl|rfl|rfl|rfl|rfl;all_goals
  simp[Instr.index,asIntOf,Ze hd,go_sem]
theorem afS (b i j k l e c h d:Value)(w:World):(Instr.index 160 (.agg #[b,i,j,k,l,e,c,h,d]) (.int .i64 0)).run Tryz.prog w= .ok b w:=bO b i j k l e c h d w 0 (by omega)
theorem afT (i b j k l e c h d:Value)(w:World):(Instr.index 160 (.agg #[i,b,j,k,l,e,c,h,d]) (.int .i64 1)).run Tryz.prog w= .ok b w:=bO i b j k l e c h d w 1 (by omega)
theorem afU (j i b k l e c h d:Value)(w:World):(Instr.index 160 (.agg #[j,i,b,k,l,e,c,h,d]) (.int .i64 2)).run Tryz.prog w= .ok b w:=bO j i b k l e c h d w 2 (by omega)
theorem afV (j i k b l e c h d:Value)(w:World):(Instr.index 160 (.agg #[j,i,k,b,l,e,c,h,d]) (.int .i64 3)).run Tryz.prog w= .ok b w:=bO j i k b l e c h d w 3 (by omega)
theorem afW (j i k l b e c h d:Value)(w:World):(Instr.index 160 (.agg #[j,i,k,l,b,e,c,h,d]) (.int .i64 4)).run Tryz.prog w= .ok b w:=bO j i k l b e c h d w 4 (by omega)
theorem afX (i h j k l b c e d:Value)(w:World):(Instr.index 160 (.agg #[i,h,j,k,l,b,c,e,d]) (.int .i64 5)).run Tryz.prog w= .ok b w:=bO i h j k l b c e d w 5 (by omega)
theorem afY (i h j k l d b e c:Value)(w:World):(Instr.index 160 (.agg #[i,h,j,k,l,d,b,e,c]) (.int .i64 6)).run Tryz.prog w= .ok b w:=bO i h j k l d b e c w 6 (by omega)
theorem afZ (i h j k l e c b d:Value)(w:World):(Instr.index 160 (.agg #[i,h,j,k,l,e,c,b,d]) (.int .i64 7)).run Tryz.prog w= .ok b w:=bO i h j k l e c b d w 7 (by omega)
theorem af0 (i h j k l d c e b:Value)(w:World):(Instr.index 160 (.agg #[i,h,j,k,l,d,c,e,b]) (.int .i64 8)).run Tryz.prog w= .ok b w:=bO i h j k l d c e b w 8 (by omega)
attribute [local go_sem] afS afT afU afV afW afX afY afZ af0
theorem aY {w:World}{g:Nat}{t:TypeId}{b:Array Value}(h:af w g t b)(o:Obj):af (w.alloc o) g t b:=h.alloc o
theorem nn (w:World)(t:TypeId)(b:Array Value)(n:Nat)(h:w.heap.size=n):af (w.alloc (.cells b t)) n t b:=by subst h;exact af.new w t b
theorem KP.made (w:World)(m:Nat)(most:Int)(s:ByteArray)(o:Obj):KP ((((((((((((w.alloc (.cells #[.int .u32 m] 22)).alloc (.cells #[.int .i64 most] 3)).alloc (.cells #[.string s] 9)).alloc (.cells #[.int .u64 0,.string ⟨#[]⟩,.string ⟨#[]⟩] 74)).alloc (.cells #[.string ⟨#[]⟩] 9)).alloc (.cells #[.int .i64 0] 3)).alloc (.cells #[U6 (w.heap.size+1+1)] 156)).alloc (.cells #[.int .i64 (4:Nat)] 3)).alloc (.cells #[.int .i64 (16:Nat)] 3)).alloc (.cells #[.int .i64 (20:Nat)] 3)).alloc (.cells #[.int .i64 (24:Nat)] 3)).alloc o) w.heap.size m most s ⟨#[]⟩ 0:=by
 constructor
 ·exact(aY (aY (aY (aY (aY (aY (aY (aY (aY (aY (aY (nn _ _ _ _ (by simp)) _) _) _) _) _) _) _) _) _) _) _)
 ·exact(aY (aY (aY (aY (aY (aY (aY (aY (aY (aY (nn _ _ _ _ (by simp)) _) _) _) _) _) _) _) _) _) _)
 ·exact(aY (aY (aY (aY (aY (aY (aY (aY (aY (nn _ _ _ _ (by simp)) _) _) _) _) _) _) _) _) _)
 ·exact(aY (aY (aY (aY (aY (aY (aY (aY (nn _ _ _ _ (by simp)) _) _) _) _) _) _) _) _)
 ·exact(aY (aY (aY (aY (aY (aY (aY (nn _ _ _ _ (by simp)) _) _) _) _) _) _) _)
 ·exact(aY (aY (aY (aY (aY (aY (nn _ _ _ _ (by simp)) _) _) _) _) _) _)
 ·exact(aY (aY (aY (aY (aY (nn _ _ _ _ (by simp)) _) _) _) _) _)
 ·exact(aY (aY (aY (aY (nn _ _ _ _ (by simp)) _) _) _) _)
 ·exact(aY (aY (aY (nn _ _ _ _ (by simp)) _) _) _)
 ·exact(aY (aY (nn _ _ _ _ (by simp)) _) _)
 exact(aY (nn _ _ _ _ (by simp)) _)
theorem Jg (m:Nat)(most:Int)(s:ByteArray)(w:World)(D:m<4294967296)(K:s.size<=1099511627776)(aa: -9223372036854775808<=most/\most<=9223372036854775807)(Y:(s.size:Int)<=90000\/most<=90000):
 Calls Tryz.prog 70 #[.int .u32 m,.int .i64 most,.string s] w fun e w'=>e= .returned (ab0 (aX m most s))/\Below w.heap.size w w':=by
 have A:=za (fun b k w=>Ni b k w);go_enter Tryz.func70,Tryz.ntmps70
 go_wp2_with fail
 refine(A.out _ 4 _).mono ?_;rintro e o ⟨rfl,rfl⟩;go_wp2_with fail
 refine(A.out _ 16 _).mono ?_;rintro e o ⟨rfl,rfl⟩;go_wp2_with fail
 refine(A.out _ 20 _).mono ?_;rintro e o ⟨rfl,rfl⟩;go_wp2_with fail
 refine(A.out _ 24 _).mono ?_;rintro e o ⟨rfl,rfl⟩;go_wp2_with fail
 generalize C:World.alloc _ (Obj.cells _ 160)=G;have M:Hid (KP G w.heap.size m most s ⟨#[]⟩ 0):=za (by
  rw[<-C];exact KP.made w m most s _)
 have O:Hid (Below w.heap.size w G):=za (by rw[<-C];exact bM);clear C;go_loopw [34] (fun i wr=>∃(k:Nat) (nm:ByteArray) (y:Nat),k<=9/\i= .int .i64 k/\KP wr w.heap.size m most s nm y/\cz m most s nm y k/\Below w.heap.size w wr) (fun i _=>9-(intOf i).toNat)
 case atStart=>exact⟨0,_,_,by omega,rfl,M.out,cz.zero,O.out⟩
 case round=>
  obtain⟨k,nm,y,F,rfl,hS,E,I⟩:=hrel;have c:=za hS;have l:=za E;have j:=za I;clear hS E I;have S:k=0\/k=1\/k=2\/k=3\/k=4\/k=5\/k=6\/k=7\/k=8\/k=9:=by omega
  rcases S with rfl|rfl|rfl|rfl|rfl|rfl|rfl|rfl|rfl|rfl
  ·have d:=za (fun(_:Unit)=>tR s _ _ 4 wr c.out.tx c.out.k1 (by omega) (by omega));by_cases h:4<=s.size
   ·simp only[zl h]at d;go_wp2_with fail
    refine(d.out ()).mono ?_;rintro e o ⟨rfl,rfl⟩;go_wp2;go_roundw
    case rel=>exact⟨1,_,_,by omega,rfl,c.out,l.out.st0 h,j.out⟩
    case measure=>simp[intOf]
   simp only[zj h]at d;have r:=za (cz.no0 (m:=m) (most:=most) h);go_wp2_with fail
   refine(d.out ()).mono ?_;rintro e o ⟨rfl,rfl⟩;obtain⟨g0,g1,g2,f0,f1,f2⟩:=a8 c.out.fr;go_wp2;have p:=za (ot c.out.fr (.int .u64 0) (.string ⟨#[]⟩) (.string ⟨#[]⟩));obtain⟨x,u,q,_,_,_⟩:=a8 p.out;refine zp (v:= .tuple #[.agg #[.int .u64 0,.string ⟨#[]⟩,.string ⟨#[]⟩],.int .i64 0,.int .i64 2]) (by simp[results,xu,go_sem,x,u,q]) rfl ?_;rw[r.out];exact⟨rfl,kx j.out (by omega) _ _ _⟩
  ·have d:=za (fun(_:Unit)=>TP s _ _ _ m wr c.out.tx c.out.nu c.out.mg D (by omega) (l.out.q0 (by omega)));by_cases h:cZ (s.extract 0 4).data.toList=m
   ·simp only[zl h]at d;have J:s.extract 0 4=qG m:=(OI _ _ (an _ _ _ (l.out.q0 (by omega))) D).2 h;have B:=za J;clear h J;go_wp2_with fail
    refine(d.out ()).mono ?_;rintro e o ⟨rfl,n,rfl⟩;replace c:=za (c.out.KQ (w':=wr.drewN n) (by intro k F;simp));replace j:Hid (Below w.heap.size w (wr.drewN n)):=za (Below.bE j.out n);go_wp2;go_roundw
    case rel=>exact⟨2,_,_,by omega,rfl,c.out,l.out.fF B.out,j.out⟩
    case measure=>simp[intOf]
   simp only[zj h]at d;have r:=za (l.out.no1 D h);clear h;go_wp2_with fail
   refine(d.out ()).mono ?_;rintro e o ⟨rfl,n,rfl⟩;replace c:=za (c.out.KQ (w':=wr.drewN n) (by intro k F;simp));replace j:Hid (Below w.heap.size w (wr.drewN n)):=za (Below.bE j.out n);obtain⟨g0,g1,g2,f0,f1,f2⟩:=a8 c.out.fr;go_wp2;have p:=za (ot c.out.fr (.int .u64 0) (.string ⟨#[]⟩) (.string ⟨#[]⟩));obtain⟨x,u,q,_,_,_⟩:=a8 p.out;refine zp (v:= .tuple #[.agg #[.int .u64 0,.string ⟨#[]⟩,.string ⟨#[]⟩],.int .i64 0,.int .i64 9]) (by simp[results,xu,go_sem,x,u,q]) rfl ?_;rw[r.out];exact⟨rfl,kx j.out (by omega) _ _ _⟩
  ·have d:=za (fun(_:Unit)=>tR s _ _ 16 wr c.out.tx c.out.k2 (by omega) (by omega));by_cases h:16<=s.size
   ·simp only[zl h]at d;go_wp2_with fail
    refine(d.out ()).mono ?_;rintro e o ⟨rfl,rfl⟩;go_wp2;go_roundw
    case rel=>exact⟨3,_,_,by omega,rfl,c.out,l.out.Sc h,j.out⟩
    case measure=>simp[intOf]
   simp only[zj h]at d;have r:=za (l.out.no2 h);go_wp2_with fail
   refine(d.out ()).mono ?_;rintro e o ⟨rfl,rfl⟩;obtain⟨g0,g1,g2,f0,f1,f2⟩:=a8 c.out.fr;go_wp2;have p:=za (ot c.out.fr (.int .u64 0) (.string ⟨#[]⟩) (.string ⟨#[]⟩));obtain⟨x,u,q,_,_,_⟩:=a8 p.out;refine zp (v:= .tuple #[.agg #[.int .u64 0,.string ⟨#[]⟩,.string ⟨#[]⟩],.int .i64 0,.int .i64 2]) (by simp[results,xu,go_sem,x,u,q]) rfl ?_;rw[r.out];exact⟨rfl,kx j.out (by omega) _ _ _⟩
  ·have d:=za (fun(_:Unit)=>TQ s _ _ _ wr c.out.tx c.out.na (by omega) (by omega) (l.out.q2 (by omega)));rcases rY (s.extract 4 16)with hg|⟨t,hg⟩
   ·have r:=za (l.out.no3 hg);simp only[hg]at d;clear hg;replace c:=za (c.out.name ByteArray.empty);replace j:Hid (Below w.heap.size w (wr.setCell ⟨w.heap.size+1+1+1+1,0,none⟩ (.string ByteArray.empty))):=za (j.out.setCell (by show w.heap.size<=w.heap.size+1+1+1+1;omega) _);go_wp2_with fail
    refine(d.out ()).mono ?_;rintro e o ⟨rfl,rfl⟩;obtain⟨g0,g1,g2,f0,f1,f2⟩:=a8 c.out.fr;go_wp2;have p:=za (ot c.out.fr (.int .u64 0) (.string ⟨#[]⟩) (.string ⟨#[]⟩));obtain⟨x,u,q,_,_,_⟩:=a8 p.out;refine zp (v:= .tuple #[.agg #[.int .u64 0,.string ⟨#[]⟩,.string ⟨#[]⟩],.int .i64 0,.int .i64 3]) (by simp[results,xu,go_sem,x,u,q]) rfl ?_;rw[r.out];exact⟨rfl,kx j.out (by omega) _ _ _⟩
   have R:=za hg;simp only[hg]at d;clear hg;replace c:=za (c.out.name t);replace j:Hid (Below w.heap.size w (wr.setCell ⟨w.heap.size+1+1+1+1,0,none⟩ (.string t))):=za (j.out.setCell (by show w.heap.size<=w.heap.size+1+1+1+1;omega) _);go_wp2_with fail
   refine(d.out ()).mono ?_;rintro e o ⟨rfl,rfl⟩;go_wp2;go_roundw
   case rel=>exact⟨4,_,_,by omega,rfl,c.out,l.out.st3 R.out,j.out⟩
   case measure=>simp[intOf]
  ·have d:=za (fun(_:Unit)=>tR s _ _ 20 wr c.out.tx c.out.k3 (by omega) (by omega));by_cases h:20<=s.size
   ·simp only[zl h]at d;go_wp2_with fail
    refine(d.out ()).mono ?_;rintro e o ⟨rfl,rfl⟩;go_wp2;go_roundw
    case rel=>exact⟨5,_,_,by omega,rfl,c.out,l.out.st4 h,j.out⟩
    case measure=>simp[intOf]
   simp only[zj h]at d;have r:=za (l.out.no4 h);go_wp2_with fail
   refine(d.out ()).mono ?_;rintro e o ⟨rfl,rfl⟩;obtain⟨g0,g1,g2,f0,f1,f2⟩:=a8 c.out.fr;go_wp2;have p:=za (ot c.out.fr (.int .u64 0) (.string ⟨#[]⟩) (.string ⟨#[]⟩));obtain⟨x,u,q,_,_,_⟩:=a8 p.out;refine zp (v:= .tuple #[.agg #[.int .u64 0,.string ⟨#[]⟩,.string ⟨#[]⟩],.int .i64 0,.int .i64 2]) (by simp[results,xu,go_sem,x,u,q]) rfl ?_;rw[r.out];exact⟨rfl,kx j.out (by omega) _ _ _⟩
  ·have d:=za (fun(_:Unit)=>Xi s _ _ _ _ _ most wr c.out.tx c.out.nu c.out.le c.out.mo (by omega) (by omega) (l.out.q4 (by omega)));replace c:=za (c.out.len (cZ (s.extract 16 20).data.toList));replace j:Hid (Below w.heap.size w (wr.setCell ⟨w.heap.size+1+1+1+1+1,0,none⟩ (.int .i64 (cZ (s.extract 16 20).data.toList)))):=za (j.out.setCell (by show w.heap.size<=w.heap.size+1+1+1+1+1;omega) _);by_cases h:(cZ (s.extract 16 20).data.toList:Int)<=most
   ·simp only[zl h]at d;have B:=za (l.out.st5 h);clear h;generalize cZ (s.extract 16 20).data.toList=N at*;go_wp2_with fail
    refine(d.out ()).mono ?_;rintro e o ⟨rfl,rfl⟩;go_wp2;go_roundw
    case rel=>exact⟨6,_,_,by omega,rfl,c.out,B.out,j.out⟩
    case measure=>simp[intOf]
   simp only[zj h]at d;have r:=za (l.out.no5 h);clear h;generalize cZ (s.extract 16 20).data.toList=N at*;go_wp2_with fail
   refine(d.out ()).mono ?_;rintro e o ⟨rfl,rfl⟩;obtain⟨g0,g1,g2,f0,f1,f2⟩:=a8 c.out.fr;go_wp2;have p:=za (ot c.out.fr (.int .u64 0) (.string ⟨#[]⟩) (.string ⟨#[]⟩));obtain⟨x,u,q,_,_,_⟩:=a8 p.out;refine zp (v:= .tuple #[.agg #[.int .u64 0,.string ⟨#[]⟩,.string ⟨#[]⟩],.int .i64 0,.int .i64 5]) (by simp[results,xu,go_sem,x,u,q]) rfl ?_;rw[r.out];exact⟨rfl,kx j.out (by omega) _ _ _⟩
  ·have d:=za (fun(_:Unit)=>tR s _ _ 24 wr c.out.tx c.out.k4 (by omega) (by omega));by_cases h:24<=s.size
   ·simp only[zl h]at d;go_wp2_with fail
    refine(d.out ()).mono ?_;rintro e o ⟨rfl,rfl⟩;go_wp2;go_roundw
    case rel=>exact⟨7,_,_,by omega,rfl,c.out,l.out.st6 h,j.out⟩
    case measure=>simp[intOf]
   simp only[zj h]at d;have r:=za (l.out.no7 (by omega));go_wp2_with fail
   refine(d.out ()).mono ?_;rintro e o ⟨rfl,rfl⟩;obtain⟨g0,g1,g2,f0,f1,f2⟩:=a8 c.out.fr;go_wp2;have p:=za (ot c.out.fr (.int .u64 0) (.string ⟨#[]⟩) (.string ⟨#[]⟩));obtain⟨x,u,q,_,_,_⟩:=a8 p.out;refine zp (v:= .tuple #[.agg #[.int .u64 0,.string ⟨#[]⟩,.string ⟨#[]⟩],.int .i64 0,.int .i64 2]) (by simp[results,xu,go_sem,x,u,q]) rfl ?_;rw[r.out];exact⟨rfl,kx j.out (by omega) _ _ _⟩
  ·have H:y<4294967296:=by
    rw[(l.out.q5 (by omega)).1];exact tG _ (an _ _ _ (l.out.q4 (by omega)))
   have d:=za (fun(_:Unit)=>TR s _ _ y wr c.out.tx c.out.le (by omega) H);clear H;by_cases h:24+y<=s.size
   ·simp only[zl h]at d;go_wp2_with fail
    refine(d.out ()).mono ?_;rintro e o ⟨rfl,rfl⟩;go_wp2;go_roundw
    case rel=>exact⟨8,_,_,by omega,rfl,c.out,l.out.st7 h,j.out⟩
    case measure=>simp[intOf]
   simp only[zj h]at d;have r:=za (cz.afR l.out h);go_wp2_with fail
   refine(d.out ()).mono ?_;rintro e o ⟨rfl,rfl⟩;obtain⟨g0,g1,g2,f0,f1,f2⟩:=a8 c.out.fr;go_wp2;have p:=za (ot c.out.fr (.int .u64 0) (.string ⟨#[]⟩) (.string ⟨#[]⟩));obtain⟨x,u,q,_,_,_⟩:=a8 p.out;refine zp (v:= .tuple #[.agg #[.int .u64 0,.string ⟨#[]⟩,.string ⟨#[]⟩],.int .i64 0,.int .i64 2]) (by simp[results,xu,go_sem,x,u,q]) rfl ?_;rw[r.out];exact⟨rfl,kx j.out (by omega) _ _ _⟩
  ·have d:=za (fun(_:Unit)=>Xj s _ _ y wr c.out.tx c.out.le K (l.out.q7 (by omega)) (by have:=(l.out.q5 (by omega)).2;have:=l.out.q7 (by omega);omega));by_cases h:eR (s.extract 24 (24+y))=s.extract 20 24
   ·simp only[zl h]at d;have B:=za h;clear h;go_wp2_with fail
    refine(d.out ()).mono ?_;rintro e o ⟨rfl,z⟩;replace c:=za (c.out.KQ (w':=o) z.block);replace j:Hid (Below w.heap.size w o):=za (j.out.trans (z.mono j.out.size));clear z;go_wp2;go_roundw
    case rel=>exact⟨9,_,_,by omega,rfl,c.out,l.out.st8 B.out,j.out⟩
    case measure=>simp[intOf]
   simp only[zj h]at d;have r:=za (l.out.no8 h);clear h;go_wp2_with fail
   refine(d.out ()).mono ?_;rintro e o ⟨rfl,z⟩;replace c:=za (c.out.KQ (w':=o) z.block);replace j:Hid (Below w.heap.size w o):=za (j.out.trans (z.mono j.out.size));clear z;obtain⟨g0,g1,g2,f0,f1,f2⟩:=a8 c.out.fr;go_wp2;have p:=za (ot c.out.fr (.int .u64 0) (.string ⟨#[]⟩) (.string ⟨#[]⟩));obtain⟨x,u,q,_,_,_⟩:=a8 p.out;refine zp (v:= .tuple #[.agg #[.int .u64 0,.string ⟨#[]⟩,.string ⟨#[]⟩],.int .i64 0,.int .i64 10]) (by simp[results,xu,go_sem,x,u,q]) rfl ?_;rw[r.out];exact⟨rfl,kx j.out (by omega) _ _ _⟩
  have r:=za l.out.yes;have h7:=l.out.q7 (by omega);have Dp:(24:Int)+y<=s.size:=by omega
  have X:(0:Int)<=24+y:=by omega
  have Z:(24:Int)<=s.size:=by omega
  have U:IntKind.i64.wrap (24+(y:Int))=24+y:=yg _ (by omega);have W:(24+(y:Int)).toNat=24+y:=by omega
  have n1:wr.cell? ⟨w.heap.size+1+1+1+1,0,none⟩=some (.string nm):=yd c.out.na;have n2:wr.cell? ⟨w.heap.size+1+1,0,none⟩=some (.string s):=yd c.out.tx;have L:wr.cell? ⟨w.heap.size+1+1+1+1+1,0,none⟩=some (.int .i64 y):=yd c.out.le;obtain⟨g0,g1,g2,f0,f1,f2⟩:=a8 c.out.fr;clear A;go_wp2;go_region
  have p:=za (ot c.out.fr (.int .u64 0) (.string nm) (.string (s.extract 24 (24+y))));obtain⟨x,u,q,_,_,_⟩:=a8 p.out;clear g0 g1 g2 f0 f1 f2 n1 n2 L;go_wp2;refine zp (v:= .tuple #[.agg #[.int .u64 0,.string nm,.string (s.extract 24 (24+y))],.int .i64 (24+y:Int),.int .i64 0]) (by simp[results,xu,go_sem,x,u,q]) rfl ?_;rw[r.out];exact⟨rfl,(kx j.out (by omega) _ _ _).drew⟩
