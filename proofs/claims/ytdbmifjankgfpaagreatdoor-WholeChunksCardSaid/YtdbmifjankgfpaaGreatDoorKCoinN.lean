/- coin.Next. -/
import Derived.Test.YtdbmifjankgfpaaGreatDoorKA14
set_option linter.all false
set_option maxRecDepth 100000
set_option maxHeartbeats 4000000
open Go.Proofs.Tryz
namespace Go.Proofs.YtdbmifjankgfpaaGreatDoor
open Go.RowKit
def xd:=@results73
structure cF (m:Nat)(most:Int)(s nm:ByteArray)(ln k:Nat):Prop where
 q0:1<=k->4<=s.size
 q1:2<=k->s.extract 0 4=kx m
 q2:3<=k->16<=s.size
 q3:4<=k->cI (s.extract 4 16)=(0,nm)
 q4:5<=k->20<=s.size
 q5:6<=k->ln=cZ (s.extract 16 20).data.toList/\(ln:Int)<=most
 q6:7<=k->24<=s.size
 q7:8<=k->24+ln<=s.size
 q8:9<=k->eQ (s.extract 24 (24+ln))=s.extract 20 24
structure Li (w:World)(b m:Nat)(most:Int)(s nm:ByteArray)(ln:Nat):Prop where
 mg:af w b 22 #[.int .u32 m]
 mo:af w (b+1) 3 #[.int .i64 most]
 tx:af w (b+1+1) 9 #[.string s]
 fr:af w (b+1+1+1) 84 #[.int .u64 0,.string ⟨#[]⟩,.string ⟨#[]⟩]
 na:af w (b+1+1+1+1) 9 #[.string nm]
 le:af w (b+1+1+1+1+1) 3 #[.int .i64 ln]
 nu:af w (b+1+1+1+1+1+1) 157 #[VK (b+1+1)]
 k1:af w (b+1+1+1+1+1+1+1) 3 #[.int .i64 (4:Nat)]
 k2:af w (b+1+1+1+1+1+1+1+1) 3 #[.int .i64 (16:Nat)]
 k3:af w (b+1+1+1+1+1+1+1+1+1) 3 #[.int .i64 (20:Nat)]
 k4:af w (b+1+1+1+1+1+1+1+1+1+1) 3 #[.int .i64 (24:Nat)]
theorem Li.Lj {w w':World}{b m:Nat}{most:Int}{s nm:ByteArray}{d:Nat}(h:Li w b m most s nm d)(c:∀k,k<w.heap.size->w'.heap[k]?=w.heap[k]?):Li w' b m most s nm d:=
 ⟨(c _ h.mg.lt).trans h.mg,(c _ h.mo.lt).trans h.mo,(c _ h.tx.lt).trans h.tx,(c _ h.fr.lt).trans h.fr,(c _ h.na.lt).trans h.na,(c _ h.le.lt).trans h.le,(c _ h.nu.lt).trans h.nu,(c _ h.k1.lt).trans h.k1,(c _ h.k2.lt).trans h.k2,(c _ h.k3.lt).trans h.k3,(c _ h.k4.lt).trans h.k4⟩
theorem Li.name {w:World}{b m:Nat}{most:Int}{s nm:ByteArray}{d:Nat}(h:Li w b m most s nm d)(c:ByteArray):Li (w.setCell ⟨b+1+1+1+1,0,none⟩ (.string c)) b m most s c d:=
 ⟨h.mg.dK (by intro e;dsimp only at e;omega) _,h.mo.dK (by intro e;dsimp only at e;omega) _,h.tx.dK (by intro e;dsimp only at e;omega) _,h.fr.dK (by intro e;dsimp only at e;omega) _,one_setCell h.na,h.le.dK (by intro e;dsimp only at e;omega) _,h.nu.dK (by intro e;dsimp only at e;omega) _,h.k1.dK (by intro e;dsimp only at e;omega) _,h.k2.dK (by intro e;dsimp only at e;omega) _,h.k3.dK (by intro e;dsimp only at e;omega) _,h.k4.dK (by intro e;dsimp only at e;omega) _⟩
theorem Li.len {w:World}{b m:Nat}{most:Int}{s nm:ByteArray}{d:Nat}(h:Li w b m most s nm d)(c:Nat):Li (w.setCell ⟨b+1+1+1+1+1,0,none⟩ (.int .i64 c)) b m most s nm c:=
 ⟨h.mg.dK (by intro e;dsimp only at e;omega) _,h.mo.dK (by intro e;dsimp only at e;omega) _,h.tx.dK (by intro e;dsimp only at e;omega) _,h.fr.dK (by intro e;dsimp only at e;omega) _,h.na.dK (by intro e;dsimp only at e;omega) _,one_setCell h.le,h.nu.dK (by intro e;dsimp only at e;omega) _,h.k1.dK (by intro e;dsimp only at e;omega) _,h.k2.dK (by intro e;dsimp only at e;omega) _,h.k3.dK (by intro e;dsimp only at e;omega) _,h.k4.dK (by intro e;dsimp only at e;omega) _⟩
theorem cF.zero {m:Nat}{most:Int}{s nm:ByteArray}{b:Nat}:cF m most s nm b 0:=⟨by omega,by omega,by omega,by omega,by omega,by omega,by omega,by omega,by omega⟩
theorem cF.no0 {m:Nat}{most:Int}{s:ByteArray}(h:¬4<=s.size):aV m most s=(2,ByteArray.empty,ByteArray.empty,0):=by rw[fw,zi (by omega)]
theorem cF.no1 {m:Nat}{most:Int}{s nm:ByteArray}{c:Nat}(k:cF m most s nm c 1)(b:m<4294967296)(h:cZ (s.extract 0 4).data.toList≠m):aV m most s=(9,ByteArray.empty,ByteArray.empty,0):=by
 have:=k.q0 (by omega);rw[fw,zh (by omega),zi];intro e;exact h ((Pd _ _ (aj _ _ _ (by omega)) b).1 e)
theorem cF.no2 {m:Nat}{most:Int}{s nm:ByteArray}{b:Nat}(k:cF m most s nm b 2)(h:¬16<=s.size):aV m most s=(2,ByteArray.empty,ByteArray.empty,0):=by
 have:=k.q0 (by omega);rw[fw,zh (by omega),zh (by simpa using k.q1 (by omega)),zi (by omega)]
theorem cF.no3 {m:Nat}{most:Int}{s nm:ByteArray}{b:Nat}(k:cF m most s nm b 3)(h:cI (s.extract 4 16)=(3,ByteArray.empty)):aV m most s=(3,ByteArray.empty,ByteArray.empty,0):=by
 have:=k.q2 (by omega);rw[fw,zh (by omega),zh (by simpa using k.q1 (by omega)),zh (by omega),zi (by rw[h];simp)]
theorem cF.no4 {m:Nat}{most:Int}{s nm:ByteArray}{b:Nat}(k:cF m most s nm b 4)(h:¬20<=s.size):aV m most s=(2,ByteArray.empty,ByteArray.empty,0):=by
 have:=k.q2 (by omega);rw[fw,zh (by omega),zh (by simpa using k.q1 (by omega)),zh (by omega),zh (by rw[k.q3 (by omega)];simp),zi (by omega)]
theorem cF.no5 {m:Nat}{most:Int}{s nm:ByteArray}{b:Nat}(k:cF m most s nm b 5)(h:¬(cZ (s.extract 16 20).data.toList:Int)<=most):aV m most s=(5,ByteArray.empty,ByteArray.empty,0):=by
 have:=k.q4 (by omega);rw[fw,zh (by omega),zh (by simpa using k.q1 (by omega)),zh (by omega),zh (by rw[k.q3 (by omega)];simp),zh (by omega),zi (by omega)]
theorem cF.no7 {m:Nat}{most:Int}{s nm:ByteArray}{b:Nat}(k:cF m most s nm b 6)(h:¬24+b<=s.size):aV m most s=(2,ByteArray.empty,ByteArray.empty,0):=by
 have:=k.q4 (by omega);obtain⟨e,c⟩:=k.q5 (by omega);rw[e]at c h;rw[fw,zh (by omega),zh (by simpa using k.q1 (by omega)),zh (by omega),zh (by rw[k.q3 (by omega)];simp),zh (by omega),zh (by omega),zi (by omega)]
theorem cF.agT {m:Nat}{most:Int}{s nm:ByteArray}{b:Nat}(k:cF m most s nm b 7)(h:¬24+b<=s.size):aV m most s=(2,ByteArray.empty,ByteArray.empty,0):=
 cF.no7 ⟨k.q0∘fun _=>by omega,k.q1∘fun _=>by omega,k.q2∘fun _=>by omega,k.q3∘fun _=>by omega,k.q4∘fun _=>by omega,k.q5∘fun _=>by omega,by omega,by omega,by omega⟩ h
theorem cF.no8 {m:Nat}{most:Int}{s nm:ByteArray}{b:Nat}(k:cF m most s nm b 8)(h:¬eQ (s.extract 24 (24+b))=s.extract 20 24):aV m most s=(10,ByteArray.empty,ByteArray.empty,0):=by
 have:=k.q4 (by omega);have c:=k.q7 (by omega);obtain⟨e,d⟩:=k.q5 (by omega);rw[e]at d h c;rw[fw,zh (by omega),zh (by simpa using k.q1 (by omega)),zh (by omega),zh (by rw[k.q3 (by omega)];simp),zh (by omega),zh (by omega),zh (by omega),zi h]
theorem cF.yes {m:Nat}{most:Int}{s nm:ByteArray}{b:Nat}(k:cF m most s nm b 9):aV m most s=(0,nm,s.extract 24 (24+b),24+b):=by
 have:=k.q4 (by omega);have d:=k.q7 (by omega);have c:=k.q8 (by omega);obtain⟨e,h⟩:=k.q5 (by omega);rw[e]at h d c⊢;rw[fw,zh (by omega),zh (by simpa using k.q1 (by omega)),zh (by omega),zh (by rw[k.q3 (by omega)];simp),zh (by omega),zh (by omega),zh (by omega),zh (by simpa using c),k.q3 (by omega)]
theorem cF.st0 {m:Nat}{most:Int}{s nm:ByteArray}{b:Nat}(h:cF m most s nm b 0)(c:4<=s.size):cF m most s nm b 1:=⟨fun _=>c,by omega,by omega,by omega,by omega,by omega,by omega,by omega,by omega⟩
theorem cF.fJ {m:Nat}{most:Int}{s nm:ByteArray}{b:Nat}(h:cF m most s nm b 1)(c:s.extract 0 4=kx m):cF m most s nm b 2:=⟨fun _=>h.q0 (by omega),fun _=>c,by omega,by omega,by omega,by omega,by omega,by omega,by omega⟩
theorem cF.SR {m:Nat}{most:Int}{s nm:ByteArray}{b:Nat}(h:cF m most s nm b 2)(c:16<=s.size):cF m most s nm b 3:=⟨fun _=>h.q0 (by omega),fun _=>h.q1 (by omega),fun _=>c,by omega,by omega,by omega,by omega,by omega,by omega⟩
theorem cF.st3 {m:Nat}{most:Int}{s nm b:ByteArray}{c:Nat}(h:cF m most s nm c 3)(d:cI (s.extract 4 16)=(0,b)):cF m most s b c 4:=⟨fun _=>h.q0 (by omega),fun _=>h.q1 (by omega),fun _=>h.q2 (by omega),fun _=>d,by omega,by omega,by omega,by omega,by omega⟩
theorem cF.st4 {m:Nat}{most:Int}{s nm:ByteArray}{b:Nat}(h:cF m most s nm b 4)(c:20<=s.size):cF m most s nm b 5:=⟨fun _=>h.q0 (by omega),fun _=>h.q1 (by omega),fun _=>h.q2 (by omega),fun _=>h.q3 (by omega),fun _=>c,by omega,by omega,by omega,by omega⟩
theorem cF.st5 {m:Nat}{most:Int}{s nm:ByteArray}{c:Nat}(h:cF m most s nm c 5)(b:(cZ (s.extract 16 20).data.toList:Int)<=most):cF m most s nm (cZ (s.extract 16 20).data.toList) 6:=⟨fun _=>h.q0 (by omega),fun _=>h.q1 (by omega),fun _=>h.q2 (by omega),fun _=>h.q3 (by omega),fun _=>h.q4 (by omega),fun _=>⟨rfl,b⟩,by omega,by omega,by omega⟩
theorem cF.st6 {m:Nat}{most:Int}{s nm:ByteArray}{b:Nat}(h:cF m most s nm b 6)(c:24<=s.size):cF m most s nm b 7:=⟨fun _=>h.q0 (by omega),fun _=>h.q1 (by omega),fun _=>h.q2 (by omega),fun _=>h.q3 (by omega),fun _=>h.q4 (by omega),fun _=>h.q5 (by omega),fun _=>c,by omega,by omega⟩
theorem cF.st7 {m:Nat}{most:Int}{s nm:ByteArray}{b:Nat}(h:cF m most s nm b 7)(c:24+b<=s.size):cF m most s nm b 8:=⟨fun _=>h.q0 (by omega),fun _=>h.q1 (by omega),fun _=>h.q2 (by omega),fun _=>h.q3 (by omega),fun _=>h.q4 (by omega),fun _=>h.q5 (by omega),fun _=>h.q6 (by omega),fun _=>c,by omega⟩
theorem cF.st8 {m:Nat}{most:Int}{s nm:ByteArray}{b:Nat}(h:cF m most s nm b 8)(c:eQ (s.extract 24 (24+b))=s.extract 20 24):cF m most s nm b 9:=⟨fun _=>h.q0 (by omega),fun _=>h.q1 (by omega),fun _=>h.q2 (by omega),fun _=>h.q3 (by omega),fun _=>h.q4 (by omega),fun _=>h.q5 (by omega),fun _=>h.q6 (by omega),fun _=>h.q7 (by omega),fun _=>c⟩
theorem bS (e d h l k j m c b:Value)(w:World)(i:Nat)(hi:i<9):
 (Instr.index 161 (.agg #[e,d,h,l,k,j,m,c,b]) (.int .i64 i)).run prog w= .ok (#[e,d,h,l,k,j,m,c,b].getD i undef) w:=by
 have hd:=underlying161;have n:i=0\/i=1\/i=2\/i=3\/i=4\/i=5\/i=6\/i=7\/i=8:=by omega
 rcases n with rfl|rfl|rfl|rfl|rfl|rfl|rfl|rfl|rfl;all_goals
  simp[Instr.index,asIntOf,xT hd,go_sem]
theorem agU (b e h k j i l d c:Value)(w:World):(Instr.index 161 (.agg #[b,e,h,k,j,i,l,d,c]) (.int .i64 0)).run prog w= .ok b w:=bS b e h k j i l d c w 0 (by omega)
theorem agV (e b h k j i l d c:Value)(w:World):(Instr.index 161 (.agg #[e,b,h,k,j,i,l,d,c]) (.int .i64 1)).run prog w= .ok b w:=bS e b h k j i l d c w 1 (by omega)
theorem agW (h e b k j i l d c:Value)(w:World):(Instr.index 161 (.agg #[h,e,b,k,j,i,l,d,c]) (.int .i64 2)).run prog w= .ok b w:=bS h e b k j i l d c w 2 (by omega)
theorem agX (h e i b k j l d c:Value)(w:World):(Instr.index 161 (.agg #[h,e,i,b,k,j,l,d,c]) (.int .i64 3)).run prog w= .ok b w:=bS h e i b k j l d c w 3 (by omega)
theorem agY (h e i k b j l d c:Value)(w:World):(Instr.index 161 (.agg #[h,e,i,k,b,j,l,d,c]) (.int .i64 4)).run prog w= .ok b w:=bS h e i k b j l d c w 4 (by omega)
theorem agZ (h e i k j b l d c:Value)(w:World):(Instr.index 161 (.agg #[h,e,i,k,j,b,l,d,c]) (.int .i64 5)).run prog w= .ok b w:=bS h e i k j b l d c w 5 (by omega)
theorem ag0 (h e i l k j b d c:Value)(w:World):(Instr.index 161 (.agg #[h,e,i,l,k,j,b,d,c]) (.int .i64 6)).run prog w= .ok b w:=bS h e i l k j b d c w 6 (by omega)
theorem ag1 (e d h k j i l b c:Value)(w:World):(Instr.index 161 (.agg #[e,d,h,k,j,i,l,b,c]) (.int .i64 7)).run prog w= .ok b w:=bS e d h k j i l b c w 7 (by omega)
theorem ag2 (e d h k j i l c b:Value)(w:World):(Instr.index 161 (.agg #[e,d,h,k,j,i,l,c,b]) (.int .i64 8)).run prog w= .ok b w:=bS e d h k j i l c b w 8 (by omega)
attribute [local go_sem] agU agV agW agX agY agZ ag0 ag1 ag2
theorem a8 {w:World}{g:Nat}{t:TypeId}{b:Array Value}(h:af w g t b)(o:Obj):af (w.alloc o) g t b:=h.alloc o
theorem nU (w:World)(t:TypeId)(b:Array Value)(n:Nat)(h:w.heap.size=n):af (w.alloc (.cells b t)) n t b:=by subst h;exact af.new w t b
theorem Li.made (w:World)(m:Nat)(most:Int)(s:ByteArray)(o:Obj):Li ((((((((((((w.alloc (.cells #[.int .u32 m] 22)).alloc (.cells #[.int .i64 most] 3)).alloc (.cells #[.string s] 9)).alloc (.cells #[.int .u64 0,.string ⟨#[]⟩,.string ⟨#[]⟩] 84)).alloc (.cells #[.string ⟨#[]⟩] 9)).alloc (.cells #[.int .i64 0] 3)).alloc (.cells #[VK (w.heap.size+1+1)] 157)).alloc (.cells #[.int .i64 (4:Nat)] 3)).alloc (.cells #[.int .i64 (16:Nat)] 3)).alloc (.cells #[.int .i64 (20:Nat)] 3)).alloc (.cells #[.int .i64 (24:Nat)] 3)).alloc o) w.heap.size m most s ⟨#[]⟩ 0:=by
 constructor
 ·exact(a8 (a8 (a8 (a8 (a8 (a8 (a8 (a8 (a8 (a8 (a8 (nU _ _ _ _ (by simp)) _) _) _) _) _) _) _) _) _) _) _)
 ·exact(a8 (a8 (a8 (a8 (a8 (a8 (a8 (a8 (a8 (a8 (nU _ _ _ _ (by simp)) _) _) _) _) _) _) _) _) _) _)
 ·exact(a8 (a8 (a8 (a8 (a8 (a8 (a8 (a8 (a8 (nU _ _ _ _ (by simp)) _) _) _) _) _) _) _) _) _)
 ·exact(a8 (a8 (a8 (a8 (a8 (a8 (a8 (a8 (nU _ _ _ _ (by simp)) _) _) _) _) _) _) _) _)
 ·exact(a8 (a8 (a8 (a8 (a8 (a8 (a8 (nU _ _ _ _ (by simp)) _) _) _) _) _) _) _)
 ·exact(a8 (a8 (a8 (a8 (a8 (a8 (nU _ _ _ _ (by simp)) _) _) _) _) _) _)
 ·exact(a8 (a8 (a8 (a8 (a8 (nU _ _ _ _ (by simp)) _) _) _) _) _)
 ·exact(a8 (a8 (a8 (a8 (nU _ _ _ _ (by simp)) _) _) _) _)
 ·exact(a8 (a8 (a8 (nU _ _ _ _ (by simp)) _) _) _)
 ·exact(a8 (a8 (nU _ _ _ _ (by simp)) _) _)
 exact(a8 (nU _ _ _ _ (by simp)) _)
theorem JB (m:Nat)(most:Int)(s:ByteArray)(w:World)(C:m<4294967296)(M:s.size<=1099511627776)(aa: -9223372036854775808<=most/\most<=9223372036854775807)(Z:(s.size:Int)<=90000\/most<=90000):
 Calls prog 73 #[.int .u32 m,.int .i64 most,.string s] w fun e w'=>e= .returned (acJ (aV m most s))/\Below w.heap.size w w':=by
 have A:=za (fun b k w=>NQ b k w);go_enter func73,ntmps73
 go_wp2_with fail
 refine(A.out _ 4 _).mono ?_;rintro e o ⟨rfl,rfl⟩;go_wp2_with fail
 refine(A.out _ 16 _).mono ?_;rintro e o ⟨rfl,rfl⟩;go_wp2_with fail
 refine(A.out _ 20 _).mono ?_;rintro e o ⟨rfl,rfl⟩;go_wp2_with fail
 refine(A.out _ 24 _).mono ?_;rintro e o ⟨rfl,rfl⟩;go_wp2_with fail
 generalize D:World.alloc _ (Obj.cells _ 161)=F;have K:Hid (Li F w.heap.size m most s ⟨#[]⟩ 0):=za (by
  rw[<-D];exact Li.made w m most s _)
 have R:Hid (Below w.heap.size w F):=za (by rw[<-D];exact bQ);clear D;go_loopw [34] (fun i wr=>∃(k:Nat) (nm:ByteArray) (y:Nat),k<=9/\i= .int .i64 k/\Li wr w.heap.size m most s nm y/\cF m most s nm y k/\Below w.heap.size w wr) (fun i _=>9-(intOf i).toNat)
 case atStart=>exact⟨0,_,_,by omega,rfl,K.out,cF.zero,R.out⟩
 case round=>
  obtain⟨k,nm,y,I,rfl,hS,G,H⟩:=hrel;have c:=za hS;have l:=za G;have j:=za H;clear hS G H;have O:k=0\/k=1\/k=2\/k=3\/k=4\/k=5\/k=6\/k=7\/k=8\/k=9:=by omega
  rcases O with rfl|rfl|rfl|rfl|rfl|rfl|rfl|rfl|rfl|rfl
  ·have d:=za (fun(_:Unit)=>uz s _ _ 4 wr c.out.tx c.out.k1 (by omega) (by omega));by_cases h:4<=s.size
   ·simp only[zi h]at d;go_wp2_with fail
    refine(d.out ()).mono ?_;rintro e o ⟨rfl,rfl⟩;go_wp2;go_roundw
    case rel=>exact⟨1,_,_,by omega,rfl,c.out,l.out.st0 h,j.out⟩
    case measure=>simp[intOf]
   simp only[zh h]at d;have u:=za (cF.no0 (m:=m) (most:=most) h);go_wp2_with fail
   refine(d.out ()).mono ?_;rintro e o ⟨rfl,rfl⟩;obtain⟨g0,g1,g2,f0,f1,f2⟩:=bg c.out.fr;go_wp2;have p:=za (o7 c.out.fr (.int .u64 0) (.string ⟨#[]⟩) (.string ⟨#[]⟩));obtain⟨q,x,r,_,_,_⟩:=bg p.out;refine zk (v:= .tuple #[.agg #[.int .u64 0,.string ⟨#[]⟩,.string ⟨#[]⟩],.int .i64 0,.int .i64 2]) (by simp[results,xd,go_sem,q,x,r]) rfl ?_;rw[u.out];exact⟨rfl,kO j.out (by omega) _ _ _⟩
  ·have d:=za (fun(_:Unit)=>Ut s _ _ _ m wr c.out.tx c.out.nu c.out.mg C (by omega) (l.out.q0 (by omega)));by_cases h:cZ (s.extract 0 4).data.toList=m
   ·simp only[zi h]at d;have J:s.extract 0 4=kx m:=(Pd _ _ (aj _ _ _ (l.out.q0 (by omega))) C).2 h;have B:=za J;clear h J;go_wp2_with fail
    refine(d.out ()).mono ?_;rintro e o ⟨rfl,n,rfl⟩;replace c:=za (c.out.Lj (w':=wr.drewN n) (by intro k I;simp));replace j:Hid (Below w.heap.size w (wr.drewN n)):=za (Below.bG j.out n);go_wp2;go_roundw
    case rel=>exact⟨2,_,_,by omega,rfl,c.out,l.out.fJ B.out,j.out⟩
    case measure=>simp[intOf]
   simp only[zh h]at d;have u:=za (l.out.no1 C h);clear h;go_wp2_with fail
   refine(d.out ()).mono ?_;rintro e o ⟨rfl,n,rfl⟩;replace c:=za (c.out.Lj (w':=wr.drewN n) (by intro k I;simp));replace j:Hid (Below w.heap.size w (wr.drewN n)):=za (Below.bG j.out n);obtain⟨g0,g1,g2,f0,f1,f2⟩:=bg c.out.fr;go_wp2;have p:=za (o7 c.out.fr (.int .u64 0) (.string ⟨#[]⟩) (.string ⟨#[]⟩));obtain⟨q,x,r,_,_,_⟩:=bg p.out;refine zk (v:= .tuple #[.agg #[.int .u64 0,.string ⟨#[]⟩,.string ⟨#[]⟩],.int .i64 0,.int .i64 9]) (by simp[results,xd,go_sem,q,x,r]) rfl ?_;rw[u.out];exact⟨rfl,kO j.out (by omega) _ _ _⟩
  ·have d:=za (fun(_:Unit)=>uz s _ _ 16 wr c.out.tx c.out.k2 (by omega) (by omega));by_cases h:16<=s.size
   ·simp only[zi h]at d;go_wp2_with fail
    refine(d.out ()).mono ?_;rintro e o ⟨rfl,rfl⟩;go_wp2;go_roundw
    case rel=>exact⟨3,_,_,by omega,rfl,c.out,l.out.SR h,j.out⟩
    case measure=>simp[intOf]
   simp only[zh h]at d;have u:=za (l.out.no2 h);go_wp2_with fail
   refine(d.out ()).mono ?_;rintro e o ⟨rfl,rfl⟩;obtain⟨g0,g1,g2,f0,f1,f2⟩:=bg c.out.fr;go_wp2;have p:=za (o7 c.out.fr (.int .u64 0) (.string ⟨#[]⟩) (.string ⟨#[]⟩));obtain⟨q,x,r,_,_,_⟩:=bg p.out;refine zk (v:= .tuple #[.agg #[.int .u64 0,.string ⟨#[]⟩,.string ⟨#[]⟩],.int .i64 0,.int .i64 2]) (by simp[results,xd,go_sem,q,x,r]) rfl ?_;rw[u.out];exact⟨rfl,kO j.out (by omega) _ _ _⟩
  ·have d:=za (fun(_:Unit)=>Uu s _ _ _ wr c.out.tx c.out.na (by omega) (by omega) (l.out.q2 (by omega)));rcases sL (s.extract 4 16)with hg|⟨t,hg⟩
   ·have u:=za (l.out.no3 hg);simp only[hg]at d;clear hg;replace c:=za (c.out.name ByteArray.empty);replace j:Hid (Below w.heap.size w (wr.setCell ⟨w.heap.size+1+1+1+1,0,none⟩ (.string ByteArray.empty))):=za (j.out.setCell (by show w.heap.size<=w.heap.size+1+1+1+1;omega) _);go_wp2_with fail
    refine(d.out ()).mono ?_;rintro e o ⟨rfl,rfl⟩;obtain⟨g0,g1,g2,f0,f1,f2⟩:=bg c.out.fr;go_wp2;have p:=za (o7 c.out.fr (.int .u64 0) (.string ⟨#[]⟩) (.string ⟨#[]⟩));obtain⟨q,x,r,_,_,_⟩:=bg p.out;refine zk (v:= .tuple #[.agg #[.int .u64 0,.string ⟨#[]⟩,.string ⟨#[]⟩],.int .i64 0,.int .i64 3]) (by simp[results,xd,go_sem,q,x,r]) rfl ?_;rw[u.out];exact⟨rfl,kO j.out (by omega) _ _ _⟩
   have L:=za hg;simp only[hg]at d;clear hg;replace c:=za (c.out.name t);replace j:Hid (Below w.heap.size w (wr.setCell ⟨w.heap.size+1+1+1+1,0,none⟩ (.string t))):=za (j.out.setCell (by show w.heap.size<=w.heap.size+1+1+1+1;omega) _);go_wp2_with fail
   refine(d.out ()).mono ?_;rintro e o ⟨rfl,rfl⟩;go_wp2;go_roundw
   case rel=>exact⟨4,_,_,by omega,rfl,c.out,l.out.st3 L.out,j.out⟩
   case measure=>simp[intOf]
  ·have d:=za (fun(_:Unit)=>uz s _ _ 20 wr c.out.tx c.out.k3 (by omega) (by omega));by_cases h:20<=s.size
   ·simp only[zi h]at d;go_wp2_with fail
    refine(d.out ()).mono ?_;rintro e o ⟨rfl,rfl⟩;go_wp2;go_roundw
    case rel=>exact⟨5,_,_,by omega,rfl,c.out,l.out.st4 h,j.out⟩
    case measure=>simp[intOf]
   simp only[zh h]at d;have u:=za (l.out.no4 h);go_wp2_with fail
   refine(d.out ()).mono ?_;rintro e o ⟨rfl,rfl⟩;obtain⟨g0,g1,g2,f0,f1,f2⟩:=bg c.out.fr;go_wp2;have p:=za (o7 c.out.fr (.int .u64 0) (.string ⟨#[]⟩) (.string ⟨#[]⟩));obtain⟨q,x,r,_,_,_⟩:=bg p.out;refine zk (v:= .tuple #[.agg #[.int .u64 0,.string ⟨#[]⟩,.string ⟨#[]⟩],.int .i64 0,.int .i64 2]) (by simp[results,xd,go_sem,q,x,r]) rfl ?_;rw[u.out];exact⟨rfl,kO j.out (by omega) _ _ _⟩
  ·have d:=za (fun(_:Unit)=>XY s _ _ _ _ _ most wr c.out.tx c.out.nu c.out.le c.out.mo (by omega) (by omega) (l.out.q4 (by omega)));replace c:=za (c.out.len (cZ (s.extract 16 20).data.toList));replace j:Hid (Below w.heap.size w (wr.setCell ⟨w.heap.size+1+1+1+1+1,0,none⟩ (.int .i64 (cZ (s.extract 16 20).data.toList)))):=za (j.out.setCell (by show w.heap.size<=w.heap.size+1+1+1+1+1;omega) _);by_cases h:(cZ (s.extract 16 20).data.toList:Int)<=most
   ·simp only[zi h]at d;have B:=za (l.out.st5 h);clear h;generalize cZ (s.extract 16 20).data.toList=N at*;go_wp2_with fail
    refine(d.out ()).mono ?_;rintro e o ⟨rfl,rfl⟩;go_wp2;go_roundw
    case rel=>exact⟨6,_,_,by omega,rfl,c.out,B.out,j.out⟩
    case measure=>simp[intOf]
   simp only[zh h]at d;have u:=za (l.out.no5 h);clear h;generalize cZ (s.extract 16 20).data.toList=N at*;go_wp2_with fail
   refine(d.out ()).mono ?_;rintro e o ⟨rfl,rfl⟩;obtain⟨g0,g1,g2,f0,f1,f2⟩:=bg c.out.fr;go_wp2;have p:=za (o7 c.out.fr (.int .u64 0) (.string ⟨#[]⟩) (.string ⟨#[]⟩));obtain⟨q,x,r,_,_,_⟩:=bg p.out;refine zk (v:= .tuple #[.agg #[.int .u64 0,.string ⟨#[]⟩,.string ⟨#[]⟩],.int .i64 0,.int .i64 5]) (by simp[results,xd,go_sem,q,x,r]) rfl ?_;rw[u.out];exact⟨rfl,kO j.out (by omega) _ _ _⟩
  ·have d:=za (fun(_:Unit)=>uz s _ _ 24 wr c.out.tx c.out.k4 (by omega) (by omega));by_cases h:24<=s.size
   ·simp only[zi h]at d;go_wp2_with fail
    refine(d.out ()).mono ?_;rintro e o ⟨rfl,rfl⟩;go_wp2;go_roundw
    case rel=>exact⟨7,_,_,by omega,rfl,c.out,l.out.st6 h,j.out⟩
    case measure=>simp[intOf]
   simp only[zh h]at d;have u:=za (l.out.no7 (by omega));go_wp2_with fail
   refine(d.out ()).mono ?_;rintro e o ⟨rfl,rfl⟩;obtain⟨g0,g1,g2,f0,f1,f2⟩:=bg c.out.fr;go_wp2;have p:=za (o7 c.out.fr (.int .u64 0) (.string ⟨#[]⟩) (.string ⟨#[]⟩));obtain⟨q,x,r,_,_,_⟩:=bg p.out;refine zk (v:= .tuple #[.agg #[.int .u64 0,.string ⟨#[]⟩,.string ⟨#[]⟩],.int .i64 0,.int .i64 2]) (by simp[results,xd,go_sem,q,x,r]) rfl ?_;rw[u.out];exact⟨rfl,kO j.out (by omega) _ _ _⟩
  ·have E:y<4294967296:=by
    rw[(l.out.q5 (by omega)).1];exact ui _ (aj _ _ _ (l.out.q4 (by omega)))
   have d:=za (fun(_:Unit)=>Uv s _ _ y wr c.out.tx c.out.le (by omega) E);clear E;by_cases h:24+y<=s.size
   ·simp only[zi h]at d;go_wp2_with fail
    refine(d.out ()).mono ?_;rintro e o ⟨rfl,rfl⟩;go_wp2;go_roundw
    case rel=>exact⟨8,_,_,by omega,rfl,c.out,l.out.st7 h,j.out⟩
    case measure=>simp[intOf]
   simp only[zh h]at d;have u:=za (cF.agT l.out h);go_wp2_with fail
   refine(d.out ()).mono ?_;rintro e o ⟨rfl,rfl⟩;obtain⟨g0,g1,g2,f0,f1,f2⟩:=bg c.out.fr;go_wp2;have p:=za (o7 c.out.fr (.int .u64 0) (.string ⟨#[]⟩) (.string ⟨#[]⟩));obtain⟨q,x,r,_,_,_⟩:=bg p.out;refine zk (v:= .tuple #[.agg #[.int .u64 0,.string ⟨#[]⟩,.string ⟨#[]⟩],.int .i64 0,.int .i64 2]) (by simp[results,xd,go_sem,q,x,r]) rfl ?_;rw[u.out];exact⟨rfl,kO j.out (by omega) _ _ _⟩
  ·have d:=za (fun(_:Unit)=>XZ s _ _ y wr c.out.tx c.out.le M (l.out.q7 (by omega)) (by have:=(l.out.q5 (by omega)).2;have:=l.out.q7 (by omega);omega));by_cases h:eQ (s.extract 24 (24+y))=s.extract 20 24
   ·simp only[zi h]at d;have B:=za h;clear h;go_wp2_with fail
    refine(d.out ()).mono ?_;rintro e o ⟨rfl,z⟩;replace c:=za (c.out.Lj (w':=o) z.block);replace j:Hid (Below w.heap.size w o):=za (j.out.trans (z.mono j.out.size));clear z;go_wp2;go_roundw
    case rel=>exact⟨9,_,_,by omega,rfl,c.out,l.out.st8 B.out,j.out⟩
    case measure=>simp[intOf]
   simp only[zh h]at d;have u:=za (l.out.no8 h);clear h;go_wp2_with fail
   refine(d.out ()).mono ?_;rintro e o ⟨rfl,z⟩;replace c:=za (c.out.Lj (w':=o) z.block);replace j:Hid (Below w.heap.size w o):=za (j.out.trans (z.mono j.out.size));clear z;obtain⟨g0,g1,g2,f0,f1,f2⟩:=bg c.out.fr;go_wp2;have p:=za (o7 c.out.fr (.int .u64 0) (.string ⟨#[]⟩) (.string ⟨#[]⟩));obtain⟨q,x,r,_,_,_⟩:=bg p.out;refine zk (v:= .tuple #[.agg #[.int .u64 0,.string ⟨#[]⟩,.string ⟨#[]⟩],.int .i64 0,.int .i64 10]) (by simp[results,xd,go_sem,q,x,r]) rfl ?_;rw[u.out];exact⟨rfl,kO j.out (by omega) _ _ _⟩
  have u:=za l.out.yes;have W:=l.out.q7 (by omega);have U:(24:Int)+y<=s.size:=by omega
  have p0:(0:Int)<=24+y:=by omega
  have Y:(24:Int)<=s.size:=by omega
  have X:IntKind.i64.wrap (24+(y:Int))=24+y:=zZ _ (by omega);have p5:(24+(y:Int)).toNat=24+y:=by omega
  have n1:wr.cell? ⟨w.heap.size+1+1+1+1,0,none⟩=some (.string nm):=zW c.out.na;have n2:wr.cell? ⟨w.heap.size+1+1,0,none⟩=some (.string s):=zW c.out.tx;have S:wr.cell? ⟨w.heap.size+1+1+1+1+1,0,none⟩=some (.int .i64 y):=zW c.out.le;obtain⟨g0,g1,g2,f0,f1,f2⟩:=bg c.out.fr;clear A;go_wp2;go_region
  have p:=za (o7 c.out.fr (.int .u64 0) (.string nm) (.string (s.extract 24 (24+y))));obtain⟨q,x,r,_,_,_⟩:=bg p.out;clear g0 g1 g2 f0 f1 f2 n1 n2 S;go_wp2;refine zk (v:= .tuple #[.agg #[.int .u64 0,.string nm,.string (s.extract 24 (24+y))],.int .i64 (24+y:Int),.int .i64 0]) (by simp[results,xd,go_sem,q,x,r]) rfl ?_;rw[u.out];exact⟨rfl,(kO j.out (by omega) _ _ _).drew⟩
