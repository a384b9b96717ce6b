/- coin.Next. -/
import Derived.Test.YtpjgigllldipiaaGreatDoorKA16
set_option linter.all false
set_option maxRecDepth 100000
set_option maxHeartbeats 4000000
namespace Go.Proofs.YtpjgigllldipiaaGreatDoor
open Tryz
open Go.RowKit
def xm:=@results70
structure cz (m:Nat)(most:Int)(s nm:ByteArray)(ln k:Nat):Prop where
 q0:1<=k->4<=s.size
 q1:2<=k->s.extract 0 4=qB m
 q2:3<=k->16<=s.size
 q3:4<=k->cS (s.extract 4 16)=(0,nm)
 q4:5<=k->20<=s.size
 q5:6<=k->ln=cV (s.extract 16 20).data.toList/\(ln:Int)<=most
 q6:7<=k->24<=s.size
 q7:8<=k->24+ln<=s.size
 q8:9<=k->eJ (s.extract 24 (24+ln))=s.extract 20 24
structure Kt (w:World)(b m:Nat)(most:Int)(s nm:ByteArray)(ln:Nat):Prop where
 mg:af w b 22 #[.int .u32 m]
 mo:af w (b+1) 3 #[.int .i64 most]
 tx:af w (b+1+1) 9 #[.string s]
 fr:af w (b+1+1+1) 74 #[.int .u64 0,.string ⟨#[]⟩,.string ⟨#[]⟩]
 na:af w (b+1+1+1+1) 9 #[.string nm]
 le:af w (b+1+1+1+1+1) 3 #[.int .i64 ln]
 nu:af w (b+1+1+1+1+1+1) 156 #[UJ (b+1+1)]
 k1:af w (b+1+1+1+1+1+1+1) 3 #[.int .i64 (4:Nat)]
 k2:af w (b+1+1+1+1+1+1+1+1) 3 #[.int .i64 (16:Nat)]
 k3:af w (b+1+1+1+1+1+1+1+1+1) 3 #[.int .i64 (20:Nat)]
 k4:af w (b+1+1+1+1+1+1+1+1+1+1) 3 #[.int .i64 (24:Nat)]
theorem Kt.Ku {w w':World}{b m:Nat}{most:Int}{s nm:ByteArray}{d:Nat}(h:Kt w b m most s nm d)(c:∀k,k<w.heap.size->w'.heap[k]?=w.heap[k]?):Kt w' b m most s nm d:=
 ⟨(c _ h.mg.lt).trans h.mg,(c _ h.mo.lt).trans h.mo,(c _ h.tx.lt).trans h.tx,(c _ h.fr.lt).trans h.fr,(c _ h.na.lt).trans h.na,(c _ h.le.lt).trans h.le,(c _ h.nu.lt).trans h.nu,(c _ h.k1.lt).trans h.k1,(c _ h.k2.lt).trans h.k2,(c _ h.k3.lt).trans h.k3,(c _ h.k4.lt).trans h.k4⟩
theorem Kt.name {w:World}{b m:Nat}{most:Int}{s nm:ByteArray}{c:Nat}(h:Kt w b m most s nm c)(d:ByteArray):Kt (w.setCell ⟨b+1+1+1+1,0,none⟩ (.string d)) b m most s d c:=
 ⟨h.mg.dE (by intro e;dsimp only at e;omega) _,h.mo.dE (by intro e;dsimp only at e;omega) _,h.tx.dE (by intro e;dsimp only at e;omega) _,h.fr.dE (by intro e;dsimp only at e;omega) _,one_setCell h.na,h.le.dE (by intro e;dsimp only at e;omega) _,h.nu.dE (by intro e;dsimp only at e;omega) _,h.k1.dE (by intro e;dsimp only at e;omega) _,h.k2.dE (by intro e;dsimp only at e;omega) _,h.k3.dE (by intro e;dsimp only at e;omega) _,h.k4.dE (by intro e;dsimp only at e;omega) _⟩
theorem Kt.len {w:World}{b m:Nat}{most:Int}{s nm:ByteArray}{d:Nat}(h:Kt w b m most s nm d)(c:Nat):Kt (w.setCell ⟨b+1+1+1+1+1,0,none⟩ (.int .i64 c)) b m most s nm c:=
 ⟨h.mg.dE (by intro e;dsimp only at e;omega) _,h.mo.dE (by intro e;dsimp only at e;omega) _,h.tx.dE (by intro e;dsimp only at e;omega) _,h.fr.dE (by intro e;dsimp only at e;omega) _,h.na.dE (by intro e;dsimp only at e;omega) _,one_setCell h.le,h.nu.dE (by intro e;dsimp only at e;omega) _,h.k1.dE (by intro e;dsimp only at e;omega) _,h.k2.dE (by intro e;dsimp only at e;omega) _,h.k3.dE (by intro e;dsimp only at e;omega) _,h.k4.dE (by intro e;dsimp only at e;omega) _⟩
theorem cz.zero {m:Nat}{most:Int}{s nm:ByteArray}{b:Nat}:cz m most s nm b 0:=⟨by omega,by omega,by omega,by omega,by omega,by omega,by omega,by omega,by omega⟩
theorem cz.no0 {m:Nat}{most:Int}{s:ByteArray}(h:¬4<=s.size):aV m most s=(2,ByteArray.empty,ByteArray.empty,0):=by rw[eZ,zl (by omega)]
theorem cz.no1 {m:Nat}{most:Int}{s nm:ByteArray}{b:Nat}(k:cz m most s nm b 1)(c:m<4294967296)(h:cV (s.extract 0 4).data.toList≠m):aV m most s=(9,ByteArray.empty,ByteArray.empty,0):=by
 have:=k.q0 (by omega);rw[eZ,zj (by omega),zl];intro e;exact h ((Oj _ _ (an _ _ _ (by omega)) c).1 e)
theorem cz.no2 {m:Nat}{most:Int}{s nm:ByteArray}{b:Nat}(k:cz m most s nm b 2)(h:¬16<=s.size):aV m most s=(2,ByteArray.empty,ByteArray.empty,0):=by
 have:=k.q0 (by omega);rw[eZ,zj (by omega),zj (by simpa using k.q1 (by omega)),zl (by omega)]
theorem cz.no3 {m:Nat}{most:Int}{s nm:ByteArray}{b:Nat}(k:cz m most s nm b 3)(h:cS (s.extract 4 16)=(3,ByteArray.empty)):aV m most s=(3,ByteArray.empty,ByteArray.empty,0):=by
 have:=k.q2 (by omega);rw[eZ,zj (by omega),zj (by simpa using k.q1 (by omega)),zj (by omega),zl (by rw[h];simp)]
theorem cz.no4 {m:Nat}{most:Int}{s nm:ByteArray}{b:Nat}(k:cz m most s nm b 4)(h:¬20<=s.size):aV m most s=(2,ByteArray.empty,ByteArray.empty,0):=by
 have:=k.q2 (by omega);rw[eZ,zj (by omega),zj (by simpa using k.q1 (by omega)),zj (by omega),zj (by rw[k.q3 (by omega)];simp),zl (by omega)]
theorem cz.no5 {m:Nat}{most:Int}{s nm:ByteArray}{b:Nat}(k:cz m most s nm b 5)(h:¬(cV (s.extract 16 20).data.toList:Int)<=most):aV m most s=(5,ByteArray.empty,ByteArray.empty,0):=by
 have:=k.q4 (by omega);rw[eZ,zj (by omega),zj (by simpa using k.q1 (by omega)),zj (by omega),zj (by rw[k.q3 (by omega)];simp),zj (by omega),zl (by omega)]
theorem cz.no7 {m:Nat}{most:Int}{s nm:ByteArray}{b:Nat}(k:cz m most s nm b 6)(h:¬24+b<=s.size):aV m most s=(2,ByteArray.empty,ByteArray.empty,0):=by
 have:=k.q4 (by omega);obtain⟨e,c⟩:=k.q5 (by omega);rw[e]at c h;rw[eZ,zj (by omega),zj (by simpa using k.q1 (by omega)),zj (by omega),zj (by rw[k.q3 (by omega)];simp),zj (by omega),zj (by omega),zl (by omega)]
theorem cz.afv {m:Nat}{most:Int}{s nm:ByteArray}{b:Nat}(k:cz m most s nm b 7)(h:¬24+b<=s.size):aV m most s=(2,ByteArray.empty,ByteArray.empty,0):=
 cz.no7 ⟨k.q0∘fun _=>by omega,k.q1∘fun _=>by omega,k.q2∘fun _=>by omega,k.q3∘fun _=>by omega,k.q4∘fun _=>by omega,k.q5∘fun _=>by omega,by omega,by omega,by omega⟩ h
theorem cz.no8 {m:Nat}{most:Int}{s nm:ByteArray}{b:Nat}(k:cz m most s nm b 8)(h:¬eJ (s.extract 24 (24+b))=s.extract 20 24):aV m most s=(10,ByteArray.empty,ByteArray.empty,0):=by
 have:=k.q4 (by omega);have c:=k.q7 (by omega);obtain⟨e,d⟩:=k.q5 (by omega);rw[e]at d h c;rw[eZ,zj (by omega),zj (by simpa using k.q1 (by omega)),zj (by omega),zj (by rw[k.q3 (by omega)];simp),zj (by omega),zj (by omega),zj (by omega),zl h]
theorem cz.yes {m:Nat}{most:Int}{s nm:ByteArray}{b:Nat}(k:cz m most s nm b 9):aV m most s=(0,nm,s.extract 24 (24+b),24+b):=by
 have:=k.q4 (by omega);have d:=k.q7 (by omega);have c:=k.q8 (by omega);obtain⟨e,h⟩:=k.q5 (by omega);rw[e]at h d c⊢;rw[eZ,zj (by omega),zj (by simpa using k.q1 (by omega)),zj (by omega),zj (by rw[k.q3 (by omega)];simp),zj (by omega),zj (by omega),zj (by omega),zj (by simpa using c),k.q3 (by omega)]
theorem cz.st0 {m:Nat}{most:Int}{s nm:ByteArray}{b:Nat}(h:cz m most s nm b 0)(c:4<=s.size):cz m most s nm b 1:=⟨fun _=>c,by omega,by omega,by omega,by omega,by omega,by omega,by omega,by omega⟩
theorem cz.fw {m:Nat}{most:Int}{s nm:ByteArray}{b:Nat}(h:cz m most s nm b 1)(c:s.extract 0 4=qB m):cz m most s nm b 2:=⟨fun _=>h.q0 (by omega),fun _=>c,by omega,by omega,by omega,by omega,by omega,by omega,by omega⟩
theorem cz.RP {m:Nat}{most:Int}{s nm:ByteArray}{b:Nat}(h:cz m most s nm b 2)(c:16<=s.size):cz m most s nm b 3:=⟨fun _=>h.q0 (by omega),fun _=>h.q1 (by omega),fun _=>c,by omega,by omega,by omega,by omega,by omega,by omega⟩
theorem cz.st3 {m:Nat}{most:Int}{s nm c:ByteArray}{b:Nat}(h:cz m most s nm b 3)(d:cS (s.extract 4 16)=(0,c)):cz m most s c b 4:=⟨fun _=>h.q0 (by omega),fun _=>h.q1 (by omega),fun _=>h.q2 (by omega),fun _=>d,by omega,by omega,by omega,by omega,by omega⟩
theorem cz.st4 {m:Nat}{most:Int}{s nm:ByteArray}{b:Nat}(h:cz m most s nm b 4)(c:20<=s.size):cz m most s nm b 5:=⟨fun _=>h.q0 (by omega),fun _=>h.q1 (by omega),fun _=>h.q2 (by omega),fun _=>h.q3 (by omega),fun _=>c,by omega,by omega,by omega,by omega⟩
theorem cz.st5 {m:Nat}{most:Int}{s nm:ByteArray}{c:Nat}(h:cz m most s nm c 5)(b:(cV (s.extract 16 20).data.toList:Int)<=most):cz m most s nm (cV (s.extract 16 20).data.toList) 6:=⟨fun _=>h.q0 (by omega),fun _=>h.q1 (by omega),fun _=>h.q2 (by omega),fun _=>h.q3 (by omega),fun _=>h.q4 (by omega),fun _=>⟨rfl,b⟩,by omega,by omega,by omega⟩
theorem cz.st6 {m:Nat}{most:Int}{s nm:ByteArray}{b:Nat}(h:cz m most s nm b 6)(c:24<=s.size):cz m most s nm b 7:=⟨fun _=>h.q0 (by omega),fun _=>h.q1 (by omega),fun _=>h.q2 (by omega),fun _=>h.q3 (by omega),fun _=>h.q4 (by omega),fun _=>h.q5 (by omega),fun _=>c,by omega,by omega⟩
theorem cz.st7 {m:Nat}{most:Int}{s nm:ByteArray}{b:Nat}(h:cz m most s nm b 7)(c:24+b<=s.size):cz m most s nm b 8:=⟨fun _=>h.q0 (by omega),fun _=>h.q1 (by omega),fun _=>h.q2 (by omega),fun _=>h.q3 (by omega),fun _=>h.q4 (by omega),fun _=>h.q5 (by omega),fun _=>h.q6 (by omega),fun _=>c,by omega⟩
theorem cz.st8 {m:Nat}{most:Int}{s nm:ByteArray}{b:Nat}(h:cz m most s nm b 8)(c:eJ (s.extract 24 (24+b))=s.extract 20 24):cz m most s nm b 9:=⟨fun _=>h.q0 (by omega),fun _=>h.q1 (by omega),fun _=>h.q2 (by omega),fun _=>h.q3 (by omega),fun _=>h.q4 (by omega),fun _=>h.q5 (by omega),fun _=>h.q6 (by omega),fun _=>h.q7 (by omega),fun _=>c⟩
theorem bO (b d e l m c k j h:Value)(w:World)(i:Nat)(hi:i<9):
 (Instr.index 160 (.agg #[b,d,e,l,m,c,k,j,h]) (.int .i64 i)).run prog w= .ok (#[b,d,e,l,m,c,k,j,h].getD i undef) w:=by
 have hd:=underlying160;have n:i=0\/i=1\/i=2\/i=3\/i=4\/i=5\/i=6\/i=7\/i=8:=by omega
 rcases n with rfl|rfl|rfl|rfl|rfl|rfl|rfl|rfl|rfl;all_goals
  simp[Instr.index,asIntOf,Zb hd,go_sem]
theorem afw (b d e k l c j i h:Value)(w:World):(Instr.index 160 (.agg #[b,d,e,k,l,c,j,i,h]) (.int .i64 0)).run prog w= .ok b w:=bO b d e k l c j i h w 0 (by omega)
theorem afx (c b e k l d j i h:Value)(w:World):(Instr.index 160 (.agg #[c,b,e,k,l,d,j,i,h]) (.int .i64 1)).run prog w= .ok b w:=bO c b e k l d j i h w 1 (by omega)
theorem afy (c e b k l d j i h:Value)(w:World):(Instr.index 160 (.agg #[c,e,b,k,l,d,j,i,h]) (.int .i64 2)).run prog w= .ok b w:=bO c e b k l d j i h w 2 (by omega)
theorem afz (c e h b l d k j i:Value)(w:World):(Instr.index 160 (.agg #[c,e,h,b,l,d,k,j,i]) (.int .i64 3)).run prog w= .ok b w:=bO c e h b l d k j i w 3 (by omega)
theorem afA (c e h l b d k j i:Value)(w:World):(Instr.index 160 (.agg #[c,e,h,l,b,d,k,j,i]) (.int .i64 4)).run prog w= .ok b w:=bO c e h l b d k j i w 4 (by omega)
theorem afB (c d e k l b j i h:Value)(w:World):(Instr.index 160 (.agg #[c,d,e,k,l,b,j,i,h]) (.int .i64 5)).run prog w= .ok b w:=bO c d e k l b j i h w 5 (by omega)
theorem afC (c e h k l d b j i:Value)(w:World):(Instr.index 160 (.agg #[c,e,h,k,l,d,b,j,i]) (.int .i64 6)).run prog w= .ok b w:=bO c e h k l d b j i w 6 (by omega)
theorem afD (c e h k l d j b i:Value)(w:World):(Instr.index 160 (.agg #[c,e,h,k,l,d,j,b,i]) (.int .i64 7)).run prog w= .ok b w:=bO c e h k l d j b i w 7 (by omega)
theorem afE (c e h k l d j i b:Value)(w:World):(Instr.index 160 (.agg #[c,e,h,k,l,d,j,i,b]) (.int .i64 8)).run prog w= .ok b w:=bO c e h k l d j i b w 8 (by omega)
attribute [local go_sem] afw afx afy afz afA afB afC afD afE
theorem aX {w:World}{g:Nat}{t:TypeId}{b:Array Value}(h:af w g t b)(o:Obj):af (w.alloc o) g t b:=h.alloc o
theorem nf (w:World)(t:TypeId)(b:Array Value)(n:Nat)(h:w.heap.size=n):af (w.alloc (.cells b t)) n t b:=by subst h;exact af.new w t b
theorem Kt.made (w:World)(m:Nat)(most:Int)(s:ByteArray)(o:Obj):Kt ((((((((((((w.alloc (.cells #[.int .u32 m] 22)).alloc (.cells #[.int .i64 most] 3)).alloc (.cells #[.string s] 9)).alloc (.cells #[.int .u64 0,.string ⟨#[]⟩,.string ⟨#[]⟩] 74)).alloc (.cells #[.string ⟨#[]⟩] 9)).alloc (.cells #[.int .i64 0] 3)).alloc (.cells #[UJ (w.heap.size+1+1)] 156)).alloc (.cells #[.int .i64 (4:Nat)] 3)).alloc (.cells #[.int .i64 (16:Nat)] 3)).alloc (.cells #[.int .i64 (20:Nat)] 3)).alloc (.cells #[.int .i64 (24:Nat)] 3)).alloc o) w.heap.size m most s ⟨#[]⟩ 0:=by
 constructor
 ·exact(aX (aX (aX (aX (aX (aX (aX (aX (aX (aX (aX (nf _ _ _ _ (by simp)) _) _) _) _) _) _) _) _) _) _) _)
 ·exact(aX (aX (aX (aX (aX (aX (aX (aX (aX (aX (nf _ _ _ _ (by simp)) _) _) _) _) _) _) _) _) _) _)
 ·exact(aX (aX (aX (aX (aX (aX (aX (aX (aX (nf _ _ _ _ (by simp)) _) _) _) _) _) _) _) _) _)
 ·exact(aX (aX (aX (aX (aX (aX (aX (aX (nf _ _ _ _ (by simp)) _) _) _) _) _) _) _) _)
 ·exact(aX (aX (aX (aX (aX (aX (aX (nf _ _ _ _ (by simp)) _) _) _) _) _) _) _)
 ·exact(aX (aX (aX (aX (aX (aX (nf _ _ _ _ (by simp)) _) _) _) _) _) _)
 ·exact(aX (aX (aX (aX (aX (nf _ _ _ _ (by simp)) _) _) _) _) _)
 ·exact(aX (aX (aX (aX (nf _ _ _ _ (by simp)) _) _) _) _)
 ·exact(aX (aX (aX (nf _ _ _ _ (by simp)) _) _) _)
 ·exact(aX (aX (nf _ _ _ _ (by simp)) _) _)
 exact(aX (nf _ _ _ _ (by simp)) _)
theorem I0 (m:Nat)(most:Int)(s:ByteArray)(w:World)(D:m<4294967296)(M:s.size<=1099511627776)(W: -9223372036854775808<=most/\most<=9223372036854775807)(X:(s.size:Int)<=90000\/most<=90000):
 Calls prog 70 #[.int .u32 m,.int .i64 most,.string s] w fun e w'=>e= .returned (aby (aV m most s))/\Below w.heap.size w w':=by
 have A:=za (fun b k w=>MZ b k w);go_enter func70,ntmps70
 go_wp2_with fail
 refine(A.out _ 4 _).mono ?_;rintro e o ⟨rfl,rfl⟩;go_wp2_with fail
 refine(A.out _ 16 _).mono ?_;rintro e o ⟨rfl,rfl⟩;go_wp2_with fail
 refine(A.out _ 20 _).mono ?_;rintro e o ⟨rfl,rfl⟩;go_wp2_with fail
 refine(A.out _ 24 _).mono ?_;rintro e o ⟨rfl,rfl⟩;go_wp2_with fail
 generalize C:World.alloc _ (Obj.cells _ 160)=H;have R:Hid (Kt H w.heap.size m most s ⟨#[]⟩ 0):=za (by
  rw[<-C];exact Kt.made w m most s _)
 have K:Hid (Below w.heap.size w H):=za (by rw[<-C];exact bN);clear C;go_loopw [34] (fun i wr=>∃(k:Nat) (nm:ByteArray) (y:Nat),k<=9/\i= .int .i64 k/\Kt wr w.heap.size m most s nm y/\cz m most s nm y k/\Below w.heap.size w wr) (fun i _=>9-(intOf i).toNat)
 case atStart=>exact⟨0,_,_,by omega,rfl,R.out,cz.zero,K.out⟩
 case round=>
  obtain⟨k,nm,y,G,rfl,hS,E,J⟩:=hrel;have c:=za hS;have l:=za E;have j:=za J;clear hS E J;have S:k=0\/k=1\/k=2\/k=3\/k=4\/k=5\/k=6\/k=7\/k=8\/k=9:=by omega
  rcases S with rfl|rfl|rfl|rfl|rfl|rfl|rfl|rfl|rfl|rfl
  ·have d:=za (fun(_:Unit)=>tJ s _ _ 4 wr c.out.tx c.out.k1 (by omega) (by omega));by_cases h:4<=s.size
   ·simp only[zl h]at d;go_wp2_with fail
    refine(d.out ()).mono ?_;rintro e o ⟨rfl,rfl⟩;go_wp2;go_roundw
    case rel=>exact⟨1,_,_,by omega,rfl,c.out,l.out.st0 h,j.out⟩
    case measure=>simp[intOf]
   simp only[zj h]at d;have x:=za (cz.no0 (m:=m) (most:=most) h);go_wp2_with fail
   refine(d.out ()).mono ?_;rintro e o ⟨rfl,rfl⟩;obtain⟨g0,g1,g2,f0,f1,f2⟩:=a8 c.out.fr;go_wp2;have r:=za (oh c.out.fr (.int .u64 0) (.string ⟨#[]⟩) (.string ⟨#[]⟩));obtain⟨q,p,u,_,_,_⟩:=a8 r.out;refine zo (v:= .tuple #[.agg #[.int .u64 0,.string ⟨#[]⟩,.string ⟨#[]⟩],.int .i64 0,.int .i64 2]) (by simp[results,xm,go_sem,q,p,u]) rfl ?_;rw[x.out];exact⟨rfl,kn j.out (by omega) _ _ _⟩
  ·have d:=za (fun(_:Unit)=>Tz s _ _ _ m wr c.out.tx c.out.nu c.out.mg D (by omega) (l.out.q0 (by omega)));by_cases h:cV (s.extract 0 4).data.toList=m
   ·simp only[zl h]at d;have I:s.extract 0 4=qB m:=(Oj _ _ (an _ _ _ (l.out.q0 (by omega))) D).2 h;have B:=za I;clear h I;go_wp2_with fail
    refine(d.out ()).mono ?_;rintro e o ⟨rfl,n,rfl⟩;replace c:=za (c.out.Ku (w':=wr.drewN n) (by intro k G;simp));replace j:Hid (Below w.heap.size w (wr.drewN n)):=za (Below.bB j.out n);go_wp2;go_roundw
    case rel=>exact⟨2,_,_,by omega,rfl,c.out,l.out.fw B.out,j.out⟩
    case measure=>simp[intOf]
   simp only[zj h]at d;have x:=za (l.out.no1 D h);clear h;go_wp2_with fail
   refine(d.out ()).mono ?_;rintro e o ⟨rfl,n,rfl⟩;replace c:=za (c.out.Ku (w':=wr.drewN n) (by intro k G;simp));replace j:Hid (Below w.heap.size w (wr.drewN n)):=za (Below.bB j.out n);obtain⟨g0,g1,g2,f0,f1,f2⟩:=a8 c.out.fr;go_wp2;have r:=za (oh c.out.fr (.int .u64 0) (.string ⟨#[]⟩) (.string ⟨#[]⟩));obtain⟨q,p,u,_,_,_⟩:=a8 r.out;refine zo (v:= .tuple #[.agg #[.int .u64 0,.string ⟨#[]⟩,.string ⟨#[]⟩],.int .i64 0,.int .i64 9]) (by simp[results,xm,go_sem,q,p,u]) rfl ?_;rw[x.out];exact⟨rfl,kn j.out (by omega) _ _ _⟩
  ·have d:=za (fun(_:Unit)=>tJ s _ _ 16 wr c.out.tx c.out.k2 (by omega) (by omega));by_cases h:16<=s.size
   ·simp only[zl h]at d;go_wp2_with fail
    refine(d.out ()).mono ?_;rintro e o ⟨rfl,rfl⟩;go_wp2;go_roundw
    case rel=>exact⟨3,_,_,by omega,rfl,c.out,l.out.RP h,j.out⟩
    case measure=>simp[intOf]
   simp only[zj h]at d;have x:=za (l.out.no2 h);go_wp2_with fail
   refine(d.out ()).mono ?_;rintro e o ⟨rfl,rfl⟩;obtain⟨g0,g1,g2,f0,f1,f2⟩:=a8 c.out.fr;go_wp2;have r:=za (oh c.out.fr (.int .u64 0) (.string ⟨#[]⟩) (.string ⟨#[]⟩));obtain⟨q,p,u,_,_,_⟩:=a8 r.out;refine zo (v:= .tuple #[.agg #[.int .u64 0,.string ⟨#[]⟩,.string ⟨#[]⟩],.int .i64 0,.int .i64 2]) (by simp[results,xm,go_sem,q,p,u]) rfl ?_;rw[x.out];exact⟨rfl,kn j.out (by omega) _ _ _⟩
  ·have d:=za (fun(_:Unit)=>TA s _ _ _ wr c.out.tx c.out.na (by omega) (by omega) (l.out.q2 (by omega)));rcases rS (s.extract 4 16)with hg|⟨t,hg⟩
   ·have x:=za (l.out.no3 hg);simp only[hg]at d;clear hg;replace c:=za (c.out.name ByteArray.empty);replace j:Hid (Below w.heap.size w (wr.setCell ⟨w.heap.size+1+1+1+1,0,none⟩ (.string ByteArray.empty))):=za (j.out.setCell (by show w.heap.size<=w.heap.size+1+1+1+1;omega) _);go_wp2_with fail
    refine(d.out ()).mono ?_;rintro e o ⟨rfl,rfl⟩;obtain⟨g0,g1,g2,f0,f1,f2⟩:=a8 c.out.fr;go_wp2;have r:=za (oh c.out.fr (.int .u64 0) (.string ⟨#[]⟩) (.string ⟨#[]⟩));obtain⟨q,p,u,_,_,_⟩:=a8 r.out;refine zo (v:= .tuple #[.agg #[.int .u64 0,.string ⟨#[]⟩,.string ⟨#[]⟩],.int .i64 0,.int .i64 3]) (by simp[results,xm,go_sem,q,p,u]) rfl ?_;rw[x.out];exact⟨rfl,kn j.out (by omega) _ _ _⟩
   have O:=za hg;simp only[hg]at d;clear hg;replace c:=za (c.out.name t);replace j:Hid (Below w.heap.size w (wr.setCell ⟨w.heap.size+1+1+1+1,0,none⟩ (.string t))):=za (j.out.setCell (by show w.heap.size<=w.heap.size+1+1+1+1;omega) _);go_wp2_with fail
   refine(d.out ()).mono ?_;rintro e o ⟨rfl,rfl⟩;go_wp2;go_roundw
   case rel=>exact⟨4,_,_,by omega,rfl,c.out,l.out.st3 O.out,j.out⟩
   case measure=>simp[intOf]
  ·have d:=za (fun(_:Unit)=>tJ s _ _ 20 wr c.out.tx c.out.k3 (by omega) (by omega));by_cases h:20<=s.size
   ·simp only[zl h]at d;go_wp2_with fail
    refine(d.out ()).mono ?_;rintro e o ⟨rfl,rfl⟩;go_wp2;go_roundw
    case rel=>exact⟨5,_,_,by omega,rfl,c.out,l.out.st4 h,j.out⟩
    case measure=>simp[intOf]
   simp only[zj h]at d;have x:=za (l.out.no4 h);go_wp2_with fail
   refine(d.out ()).mono ?_;rintro e o ⟨rfl,rfl⟩;obtain⟨g0,g1,g2,f0,f1,f2⟩:=a8 c.out.fr;go_wp2;have r:=za (oh c.out.fr (.int .u64 0) (.string ⟨#[]⟩) (.string ⟨#[]⟩));obtain⟨q,p,u,_,_,_⟩:=a8 r.out;refine zo (v:= .tuple #[.agg #[.int .u64 0,.string ⟨#[]⟩,.string ⟨#[]⟩],.int .i64 0,.int .i64 2]) (by simp[results,xm,go_sem,q,p,u]) rfl ?_;rw[x.out];exact⟨rfl,kn j.out (by omega) _ _ _⟩
  ·have d:=za (fun(_:Unit)=>WJ s _ _ _ _ _ most wr c.out.tx c.out.nu c.out.le c.out.mo (by omega) (by omega) (l.out.q4 (by omega)));replace c:=za (c.out.len (cV (s.extract 16 20).data.toList));replace j:Hid (Below w.heap.size w (wr.setCell ⟨w.heap.size+1+1+1+1+1,0,none⟩ (.int .i64 (cV (s.extract 16 20).data.toList)))):=za (j.out.setCell (by show w.heap.size<=w.heap.size+1+1+1+1+1;omega) _);by_cases h:(cV (s.extract 16 20).data.toList:Int)<=most
   ·simp only[zl h]at d;have B:=za (l.out.st5 h);clear h;generalize cV (s.extract 16 20).data.toList=N at*;go_wp2_with fail
    refine(d.out ()).mono ?_;rintro e o ⟨rfl,rfl⟩;go_wp2;go_roundw
    case rel=>exact⟨6,_,_,by omega,rfl,c.out,B.out,j.out⟩
    case measure=>simp[intOf]
   simp only[zj h]at d;have x:=za (l.out.no5 h);clear h;generalize cV (s.extract 16 20).data.toList=N at*;go_wp2_with fail
   refine(d.out ()).mono ?_;rintro e o ⟨rfl,rfl⟩;obtain⟨g0,g1,g2,f0,f1,f2⟩:=a8 c.out.fr;go_wp2;have r:=za (oh c.out.fr (.int .u64 0) (.string ⟨#[]⟩) (.string ⟨#[]⟩));obtain⟨q,p,u,_,_,_⟩:=a8 r.out;refine zo (v:= .tuple #[.agg #[.int .u64 0,.string ⟨#[]⟩,.string ⟨#[]⟩],.int .i64 0,.int .i64 5]) (by simp[results,xm,go_sem,q,p,u]) rfl ?_;rw[x.out];exact⟨rfl,kn j.out (by omega) _ _ _⟩
  ·have d:=za (fun(_:Unit)=>tJ s _ _ 24 wr c.out.tx c.out.k4 (by omega) (by omega));by_cases h:24<=s.size
   ·simp only[zl h]at d;go_wp2_with fail
    refine(d.out ()).mono ?_;rintro e o ⟨rfl,rfl⟩;go_wp2;go_roundw
    case rel=>exact⟨7,_,_,by omega,rfl,c.out,l.out.st6 h,j.out⟩
    case measure=>simp[intOf]
   simp only[zj h]at d;have x:=za (l.out.no7 (by omega));go_wp2_with fail
   refine(d.out ()).mono ?_;rintro e o ⟨rfl,rfl⟩;obtain⟨g0,g1,g2,f0,f1,f2⟩:=a8 c.out.fr;go_wp2;have r:=za (oh c.out.fr (.int .u64 0) (.string ⟨#[]⟩) (.string ⟨#[]⟩));obtain⟨q,p,u,_,_,_⟩:=a8 r.out;refine zo (v:= .tuple #[.agg #[.int .u64 0,.string ⟨#[]⟩,.string ⟨#[]⟩],.int .i64 0,.int .i64 2]) (by simp[results,xm,go_sem,q,p,u]) rfl ?_;rw[x.out];exact⟨rfl,kn j.out (by omega) _ _ _⟩
  ·have F:y<4294967296:=by
    rw[(l.out.q5 (by omega)).1];exact tz _ (an _ _ _ (l.out.q4 (by omega)))
   have d:=za (fun(_:Unit)=>TB s _ _ y wr c.out.tx c.out.le (by omega) F);clear F;by_cases h:24+y<=s.size
   ·simp only[zl h]at d;go_wp2_with fail
    refine(d.out ()).mono ?_;rintro e o ⟨rfl,rfl⟩;go_wp2;go_roundw
    case rel=>exact⟨8,_,_,by omega,rfl,c.out,l.out.st7 h,j.out⟩
    case measure=>simp[intOf]
   simp only[zj h]at d;have x:=za (cz.afv l.out h);go_wp2_with fail
   refine(d.out ()).mono ?_;rintro e o ⟨rfl,rfl⟩;obtain⟨g0,g1,g2,f0,f1,f2⟩:=a8 c.out.fr;go_wp2;have r:=za (oh c.out.fr (.int .u64 0) (.string ⟨#[]⟩) (.string ⟨#[]⟩));obtain⟨q,p,u,_,_,_⟩:=a8 r.out;refine zo (v:= .tuple #[.agg #[.int .u64 0,.string ⟨#[]⟩,.string ⟨#[]⟩],.int .i64 0,.int .i64 2]) (by simp[results,xm,go_sem,q,p,u]) rfl ?_;rw[x.out];exact⟨rfl,kn j.out (by omega) _ _ _⟩
  ·have d:=za (fun(_:Unit)=>WK s _ _ y wr c.out.tx c.out.le M (l.out.q7 (by omega)) (by have:=(l.out.q5 (by omega)).2;have:=l.out.q7 (by omega);omega));by_cases h:eJ (s.extract 24 (24+y))=s.extract 20 24
   ·simp only[zl h]at d;have B:=za h;clear h;go_wp2_with fail
    refine(d.out ()).mono ?_;rintro e o ⟨rfl,z⟩;replace c:=za (c.out.Ku (w':=o) z.block);replace j:Hid (Below w.heap.size w o):=za (j.out.trans (z.mono j.out.size));clear z;go_wp2;go_roundw
    case rel=>exact⟨9,_,_,by omega,rfl,c.out,l.out.st8 B.out,j.out⟩
    case measure=>simp[intOf]
   simp only[zj h]at d;have x:=za (l.out.no8 h);clear h;go_wp2_with fail
   refine(d.out ()).mono ?_;rintro e o ⟨rfl,z⟩;replace c:=za (c.out.Ku (w':=o) z.block);replace j:Hid (Below w.heap.size w o):=za (j.out.trans (z.mono j.out.size));clear z;obtain⟨g0,g1,g2,f0,f1,f2⟩:=a8 c.out.fr;go_wp2;have r:=za (oh c.out.fr (.int .u64 0) (.string ⟨#[]⟩) (.string ⟨#[]⟩));obtain⟨q,p,u,_,_,_⟩:=a8 r.out;refine zo (v:= .tuple #[.agg #[.int .u64 0,.string ⟨#[]⟩,.string ⟨#[]⟩],.int .i64 0,.int .i64 10]) (by simp[results,xm,go_sem,q,p,u]) rfl ?_;rw[x.out];exact⟨rfl,kn j.out (by omega) _ _ _⟩
  have x:=za l.out.yes;have Z:=l.out.q7 (by omega);have Dh:(24:Int)+y<=s.size:=by omega
  have U:(0:Int)<=24+y:=by omega
  have Y:(24:Int)<=s.size:=by omega
  have p4:IntKind.i64.wrap (24+(y:Int))=24+y:=yh _ (by omega);have p5:(24+(y:Int)).toNat=24+y:=by omega
  have n1:wr.cell? ⟨w.heap.size+1+1+1+1,0,none⟩=some (.string nm):=yd c.out.na;have n2:wr.cell? ⟨w.heap.size+1+1,0,none⟩=some (.string s):=yd c.out.tx;have L:wr.cell? ⟨w.heap.size+1+1+1+1+1,0,none⟩=some (.int .i64 y):=yd c.out.le;obtain⟨g0,g1,g2,f0,f1,f2⟩:=a8 c.out.fr;clear A;go_wp2;go_region
  have r:=za (oh c.out.fr (.int .u64 0) (.string nm) (.string (s.extract 24 (24+y))));obtain⟨q,p,u,_,_,_⟩:=a8 r.out;clear g0 g1 g2 f0 f1 f2 n1 n2 L;go_wp2;refine zo (v:= .tuple #[.agg #[.int .u64 0,.string nm,.string (s.extract 24 (24+y))],.int .i64 (24+y:Int),.int .i64 0]) (by simp[results,xm,go_sem,q,p,u]) rfl ?_;rw[x.out];exact⟨rfl,(kn j.out (by omega) _ _ _).drew⟩
