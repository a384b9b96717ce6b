/- coin.Next. -/
import Derived.Test.YtdbmifjankgfpaaGreatDoorKA15
set_option linter.all false
set_option maxRecDepth 100000
set_option maxHeartbeats 4000000
open Go.Proofs.Tryz
namespace Go.Proofs.YtdbmifjankgfpaaGreatDoor
open Go.RowKit
variable {m d:Nat}{most:Int}{s nm:ByteArray}{w:World}
def xh:=@results73
structure cM (m:Nat)(most:Int)(s nm:ByteArray)(ln k:Nat):Prop where
 q0:1<=k->4<=s.size
 q1:2<=k->s.extract 0 4=rm m
 q2:3<=k->16<=s.size
 q3:4<=k->dt (s.extract 4 16)=(0,nm)
 q4:5<=k->20<=s.size
 q5:6<=k->ln=du (s.extract 16 20).data.toList/\(ln:Int)<=most
 q6:7<=k->24<=s.size
 q7:8<=k->24+ln<=s.size
 q8:9<=k->eZ (s.extract 24 (24+ln))=s.extract 20 24
structure Lv (w:World)(b m:Nat)(most:Int)(s nm:ByteArray)(ln:Nat):Prop where
 mg:af w b 22 #[.int .u32 m]
 mo:af w (b+1) 3 #[.int .i64 most]
 tx:af w (b+1+1) 9 #[.string s]
 fr:af w (b+1+1+1) 84 #[.int .u64 0,.string ⟨#[]⟩,.string ⟨#[]⟩]
 na:af w (b+1+1+1+1) 9 #[.string nm]
 le:af w (b+1+1+1+1+1) 3 #[.int .i64 ln]
 nu:af w (b+1+1+1+1+1+1) 157 #[VM (b+1+1)]
 k1:af w (b+1+1+1+1+1+1+1) 3 #[.int .i64 (4:Nat)]
 k2:af w (b+1+1+1+1+1+1+1+1) 3 #[.int .i64 (16:Nat)]
 k3:af w (b+1+1+1+1+1+1+1+1+1) 3 #[.int .i64 (20:Nat)]
 k4:af w (b+1+1+1+1+1+1+1+1+1+1) 3 #[.int .i64 (24:Nat)]
theorem Lv.Lw {w':World}{b:Nat}(h:Lv w b m most s nm d)(c:∀k,k<w.heap.size->w'.heap[k]?=w.heap[k]?):Lv w' b m most s nm d:=
 ⟨(c _ h.mg.lt).trans h.mg,(c _ h.mo.lt).trans h.mo,(c _ h.tx.lt).trans h.tx,(c _ h.fr.lt).trans h.fr,(c _ h.na.lt).trans h.na,(c _ h.le.lt).trans h.le,(c _ h.nu.lt).trans h.nu,(c _ h.k1.lt).trans h.k1,(c _ h.k2.lt).trans h.k2,(c _ h.k3.lt).trans h.k3,(c _ h.k4.lt).trans h.k4⟩
theorem Lv.name {b:Nat}{c:Nat}(h:Lv w b m most s nm c)(d:ByteArray):Lv (w.setCell ⟨b+1+1+1+1,0,none⟩ (.string d)) b m most s d c:=
 ⟨h.mg.dS (by intro e;dsimp only at e;omega) _,h.mo.dS (by intro e;dsimp only at e;omega) _,h.tx.dS (by intro e;dsimp only at e;omega) _,h.fr.dS (by intro e;dsimp only at e;omega) _,one_setCell h.na,h.le.dS (by intro e;dsimp only at e;omega) _,h.nu.dS (by intro e;dsimp only at e;omega) _,h.k1.dS (by intro e;dsimp only at e;omega) _,h.k2.dS (by intro e;dsimp only at e;omega) _,h.k3.dS (by intro e;dsimp only at e;omega) _,h.k4.dS (by intro e;dsimp only at e;omega) _⟩
theorem Lv.len {b:Nat}(h:Lv w b m most s nm d)(c:Nat):Lv (w.setCell ⟨b+1+1+1+1+1,0,none⟩ (.int .i64 c)) b m most s nm c:=
 ⟨h.mg.dS (by intro e;dsimp only at e;omega) _,h.mo.dS (by intro e;dsimp only at e;omega) _,h.tx.dS (by intro e;dsimp only at e;omega) _,h.fr.dS (by intro e;dsimp only at e;omega) _,h.na.dS (by intro e;dsimp only at e;omega) _,one_setCell h.le,h.nu.dS (by intro e;dsimp only at e;omega) _,h.k1.dS (by intro e;dsimp only at e;omega) _,h.k2.dS (by intro e;dsimp only at e;omega) _,h.k3.dS (by intro e;dsimp only at e;omega) _,h.k4.dS (by intro e;dsimp only at e;omega) _⟩
theorem cM.zero {b:Nat}:cM m most s nm b 0:=⟨by omega,by omega,by omega,by omega,by omega,by omega,by omega,by omega,by omega⟩
theorem cM.no0 (h:¬4<=s.size):aW m most s=(2,ByteArray.empty,ByteArray.empty,0):=by rw[fx,zi (by omega)]
theorem cM.no1 {b:Nat}(k:cM m most s nm b 1)(c:m<4294967296)(h:du (s.extract 0 4).data.toList≠m):aW m most s=(9,ByteArray.empty,ByteArray.empty,0):=by
 have:=k.q0 (by omega);rw[fx,zh (by omega),zi];intro e;exact h ((Pw _ _ (aq _ _ _ (by omega)) c).1 e)
theorem cM.no2 {b:Nat}(k:cM m most s nm b 2)(h:¬16<=s.size):aW m most s=(2,ByteArray.empty,ByteArray.empty,0):=by
 have:=k.q0 (by omega);rw[fx,zh (by omega),zh (by simpa using k.q1 (by omega)),zi (by omega)]
theorem cM.no3 {b:Nat}(k:cM m most s nm b 3)(h:dt (s.extract 4 16)=(3,ByteArray.empty)):aW m most s=(3,ByteArray.empty,ByteArray.empty,0):=by
 have:=k.q2 (by omega);rw[fx,zh (by omega),zh (by simpa using k.q1 (by omega)),zh (by omega),zi (by rw[h];simp)]
theorem cM.no4 {b:Nat}(k:cM m most s nm b 4)(h:¬20<=s.size):aW m most s=(2,ByteArray.empty,ByteArray.empty,0):=by
 have:=k.q2 (by omega);rw[fx,zh (by omega),zh (by simpa using k.q1 (by omega)),zh (by omega),zh (by rw[k.q3 (by omega)];simp),zi (by omega)]
theorem cM.no5 {b:Nat}(k:cM m most s nm b 5)(h:¬(du (s.extract 16 20).data.toList:Int)<=most):aW m most s=(5,ByteArray.empty,ByteArray.empty,0):=by
 have:=k.q4 (by omega);rw[fx,zh (by omega),zh (by simpa using k.q1 (by omega)),zh (by omega),zh (by rw[k.q3 (by omega)];simp),zh (by omega),zi (by omega)]
theorem cM.no7 {b:Nat}(k:cM m most s nm b 6)(h:¬24+b<=s.size):aW m most s=(2,ByteArray.empty,ByteArray.empty,0):=by
 have:=k.q4 (by omega);obtain⟨e,c⟩:=k.q5 (by omega);rw[e]at c h;rw[fx,zh (by omega),zh (by simpa using k.q1 (by omega)),zh (by omega),zh (by rw[k.q3 (by omega)];simp),zh (by omega),zh (by omega),zi (by omega)]
theorem cM.agE {b:Nat}(k:cM m most s nm b 7)(h:¬24+b<=s.size):aW m most s=(2,ByteArray.empty,ByteArray.empty,0):=
 cM.no7 ⟨k.q0∘fun _=>by omega,k.q1∘fun _=>by omega,k.q2∘fun _=>by omega,k.q3∘fun _=>by omega,k.q4∘fun _=>by omega,k.q5∘fun _=>by omega,by omega,by omega,by omega⟩ h
theorem cM.no8 {b:Nat}(k:cM m most s nm b 8)(h:¬eZ (s.extract 24 (24+b))=s.extract 20 24):aW m most s=(10,ByteArray.empty,ByteArray.empty,0):=by
 have:=k.q4 (by omega);have d:=k.q7 (by omega);obtain⟨e,c⟩:=k.q5 (by omega);rw[e]at c h d;rw[fx,zh (by omega),zh (by simpa using k.q1 (by omega)),zh (by omega),zh (by rw[k.q3 (by omega)];simp),zh (by omega),zh (by omega),zh (by omega),zi h]
theorem cM.yes {b:Nat}(k:cM m most s nm b 9):aW m most s=(0,nm,s.extract 24 (24+b),24+b):=by
 have:=k.q4 (by omega);have h:=k.q7 (by omega);have c:=k.q8 (by omega);obtain⟨e,d⟩:=k.q5 (by omega);rw[e]at d h c⊢;rw[fx,zh (by omega),zh (by simpa using k.q1 (by omega)),zh (by omega),zh (by rw[k.q3 (by omega)];simp),zh (by omega),zh (by omega),zh (by omega),zh (by simpa using c),k.q3 (by omega)]
theorem cM.st0 {b:Nat}(h:cM m most s nm b 0)(c:4<=s.size):cM m most s nm b 1:=⟨fun _=>c,by omega,by omega,by omega,by omega,by omega,by omega,by omega,by omega⟩
theorem cM.fF {b:Nat}(h:cM m most s nm b 1)(c:s.extract 0 4=rm m):cM m most s nm b 2:=⟨fun _=>h.q0 (by omega),fun _=>c,by omega,by omega,by omega,by omega,by omega,by omega,by omega⟩
theorem cM.SX {b:Nat}(h:cM m most s nm b 2)(c:16<=s.size):cM m most s nm b 3:=⟨fun _=>h.q0 (by omega),fun _=>h.q1 (by omega),fun _=>c,by omega,by omega,by omega,by omega,by omega,by omega⟩
theorem cM.st3 {c:ByteArray}{b:Nat}(h:cM m most s nm b 3)(d:dt (s.extract 4 16)=(0,c)):cM m most s c b 4:=⟨fun _=>h.q0 (by omega),fun _=>h.q1 (by omega),fun _=>h.q2 (by omega),fun _=>d,by omega,by omega,by omega,by omega,by omega⟩
theorem cM.st4 {b:Nat}(h:cM m most s nm b 4)(c:20<=s.size):cM m most s nm b 5:=⟨fun _=>h.q0 (by omega),fun _=>h.q1 (by omega),fun _=>h.q2 (by omega),fun _=>h.q3 (by omega),fun _=>c,by omega,by omega,by omega,by omega⟩
theorem cM.st5 {b:Nat}(h:cM m most s nm b 5)(c:(du (s.extract 16 20).data.toList:Int)<=most):cM m most s nm (du (s.extract 16 20).data.toList) 6:=⟨fun _=>h.q0 (by omega),fun _=>h.q1 (by omega),fun _=>h.q2 (by omega),fun _=>h.q3 (by omega),fun _=>h.q4 (by omega),fun _=>⟨rfl,c⟩,by omega,by omega,by omega⟩
theorem cM.st6 {b:Nat}(h:cM m most s nm b 6)(c:24<=s.size):cM m most s nm b 7:=⟨fun _=>h.q0 (by omega),fun _=>h.q1 (by omega),fun _=>h.q2 (by omega),fun _=>h.q3 (by omega),fun _=>h.q4 (by omega),fun _=>h.q5 (by omega),fun _=>c,by omega,by omega⟩
theorem cM.st7 {b:Nat}(h:cM m most s nm b 7)(c:24+b<=s.size):cM m most s nm b 8:=⟨fun _=>h.q0 (by omega),fun _=>h.q1 (by omega),fun _=>h.q2 (by omega),fun _=>h.q3 (by omega),fun _=>h.q4 (by omega),fun _=>h.q5 (by omega),fun _=>h.q6 (by omega),fun _=>c,by omega⟩
theorem cM.st8 {b:Nat}(h:cM m most s nm b 8)(c:eZ (s.extract 24 (24+b))=s.extract 20 24):cM m most s nm b 9:=⟨fun _=>h.q0 (by omega),fun _=>h.q1 (by omega),fun _=>h.q2 (by omega),fun _=>h.q3 (by omega),fun _=>h.q4 (by omega),fun _=>h.q5 (by omega),fun _=>h.q6 (by omega),fun _=>h.q7 (by omega),fun _=>c⟩
theorem bY (c h m j k l e d b:Value)(w:World)(i:Nat)(hi:i<9):
 (Instr.index 161 (.agg #[c,h,m,j,k,l,e,d,b]) (.int .i64 i)).run prog w= .ok (#[c,h,m,j,k,l,e,d,b].getD i undef) w:=by
 have hd:=underlying161;have n:i=0\/i=1\/i=2\/i=3\/i=4\/i=5\/i=6\/i=7\/i=8:=by omega
 rcases n with rfl|rfl|rfl|rfl|rfl|rfl|rfl|rfl|rfl;all_goals
  simp[Instr.index,asIntOf,xW hd,go_sem]
theorem agF (b h l i j k e d c:Value)(w:World):(Instr.index 161 (.agg #[b,h,l,i,j,k,e,d,c]) (.int .i64 0)).run prog w= .ok b w:=bY b h l i j k e d c w 0 (by omega)
theorem agG (d b l i j k h e c:Value)(w:World):(Instr.index 161 (.agg #[d,b,l,i,j,k,h,e,c]) (.int .i64 1)).run prog w= .ok b w:=bY d b l i j k h e c w 1 (by omega)
theorem agH (d i b j k l h e c:Value)(w:World):(Instr.index 161 (.agg #[d,i,b,j,k,l,h,e,c]) (.int .i64 2)).run prog w= .ok b w:=bY d i b j k l h e c w 2 (by omega)
theorem agI (d i l b j k h e c:Value)(w:World):(Instr.index 161 (.agg #[d,i,l,b,j,k,h,e,c]) (.int .i64 3)).run prog w= .ok b w:=bY d i l b j k h e c w 3 (by omega)
theorem agJ (d i l j b k h e c:Value)(w:World):(Instr.index 161 (.agg #[d,i,l,j,b,k,h,e,c]) (.int .i64 4)).run prog w= .ok b w:=bY d i l j b k h e c w 4 (by omega)
theorem agK (d i l j k b h e c:Value)(w:World):(Instr.index 161 (.agg #[d,i,l,j,k,b,h,e,c]) (.int .i64 5)).run prog w= .ok b w:=bY d i l j k b h e c w 5 (by omega)
theorem agL (d h l i j k b e c:Value)(w:World):(Instr.index 161 (.agg #[d,h,l,i,j,k,b,e,c]) (.int .i64 6)).run prog w= .ok b w:=bY d h l i j k b e c w 6 (by omega)
theorem agM (d h l i j k e b c:Value)(w:World):(Instr.index 161 (.agg #[d,h,l,i,j,k,e,b,c]) (.int .i64 7)).run prog w= .ok b w:=bY d h l i j k e b c w 7 (by omega)
theorem agN (c h l i j k e d b:Value)(w:World):(Instr.index 161 (.agg #[c,h,l,i,j,k,e,d,b]) (.int .i64 8)).run prog w= .ok b w:=bY c h l i j k e d b w 8 (by omega)
attribute [local go_sem] agF agG agH agI agJ agK agL agM agN
theorem aY {g:Nat}{t:TypeId}{b:Array Value}(h:af w g t b)(o:Obj):af (w.alloc o) g t b:=h.alloc o
theorem nL (w:World)(t:TypeId)(b:Array Value)(n:Nat)(h:w.heap.size=n):af (w.alloc (.cells b t)) n t b:=by subst h;exact af.new w t b
theorem Lv.made (w:World)(m:Nat)(most:Int)(s:ByteArray)(o:Obj):Lv ((((((((((((w.alloc (.cells #[.int .u32 m] 22)).alloc (.cells #[.int .i64 most] 3)).alloc (.cells #[.string s] 9)).alloc (.cells #[.int .u64 0,.string ⟨#[]⟩,.string ⟨#[]⟩] 84)).alloc (.cells #[.string ⟨#[]⟩] 9)).alloc (.cells #[.int .i64 0] 3)).alloc (.cells #[VM (w.heap.size+1+1)] 157)).alloc (.cells #[.int .i64 (4:Nat)] 3)).alloc (.cells #[.int .i64 (16:Nat)] 3)).alloc (.cells #[.int .i64 (20:Nat)] 3)).alloc (.cells #[.int .i64 (24:Nat)] 3)).alloc o) w.heap.size m most s ⟨#[]⟩ 0:=by
 constructor
 ·exact(aY (aY (aY (aY (aY (aY (aY (aY (aY (aY (aY (nL _ _ _ _ (by simp)) _) _) _) _) _) _) _) _) _) _) _)
 ·exact(aY (aY (aY (aY (aY (aY (aY (aY (aY (aY (nL _ _ _ _ (by simp)) _) _) _) _) _) _) _) _) _) _)
 ·exact(aY (aY (aY (aY (aY (aY (aY (aY (aY (nL _ _ _ _ (by simp)) _) _) _) _) _) _) _) _) _)
 ·exact(aY (aY (aY (aY (aY (aY (aY (aY (nL _ _ _ _ (by simp)) _) _) _) _) _) _) _) _)
 ·exact(aY (aY (aY (aY (aY (aY (aY (nL _ _ _ _ (by simp)) _) _) _) _) _) _) _)
 ·exact(aY (aY (aY (aY (aY (aY (nL _ _ _ _ (by simp)) _) _) _) _) _) _)
 ·exact(aY (aY (aY (aY (aY (nL _ _ _ _ (by simp)) _) _) _) _) _)
 ·exact(aY (aY (aY (aY (nL _ _ _ _ (by simp)) _) _) _) _)
 ·exact(aY (aY (aY (nL _ _ _ _ (by simp)) _) _) _)
 ·exact(aY (aY (nL _ _ _ _ (by simp)) _) _)
 exact(aY (nL _ _ _ _ (by simp)) _)
theorem JL (m:Nat)(most:Int)(s:ByteArray)(w:World)(C:m<4294967296)(S:s.size<=1099511627776)(X: -9223372036854775808<=most/\most<=9223372036854775807)(Y:(s.size:Int)<=90000\/most<=90000):
 Calls prog 73 #[.int .u32 m,.int .i64 most,.string s] w fun e w'=>e= .returned (acF (aW m most s))/\Below w.heap.size w w':=by
 have A:=za (fun b k w=>N6 b k w);go_enter func73,ntmps73
 go_wp2_with fail
 refine(A.out _ 4 _).mono ?_;rintro e o ⟨rfl,rfl⟩;go_wp2_with fail
 refine(A.out _ 16 _).mono ?_;rintro e o ⟨rfl,rfl⟩;go_wp2_with fail
 refine(A.out _ 20 _).mono ?_;rintro e o ⟨rfl,rfl⟩;go_wp2_with fail
 refine(A.out _ 24 _).mono ?_;rintro e o ⟨rfl,rfl⟩;go_wp2_with fail
 generalize D:World.alloc _ (Obj.cells _ 161)=J;have L:Hid (Lv J w.heap.size m most s ⟨#[]⟩ 0):=za (by
  rw[<-D];exact Lv.made w m most s _)
 have K:Hid (Below w.heap.size w J):=za (by rw[<-D];exact bD);clear D;go_loopw [34] (fun i wr=>∃(k:Nat) (nm:ByteArray) (y:Nat),k<=9/\i= .int .i64 k/\Lv wr w.heap.size m most s nm y/\cM m most s nm y k/\Below w.heap.size w wr) (fun i _=>9-(intOf i).toNat)
 case atStart=>exact⟨0,_,_,by omega,rfl,L.out,cM.zero,K.out⟩
 case round=>
  obtain⟨k,nm,y,H,rfl,hS,G,I⟩:=hrel;have c:=za hS;have l:=za G;have j:=za I;clear hS G I;have M:k=0\/k=1\/k=2\/k=3\/k=4\/k=5\/k=6\/k=7\/k=8\/k=9:=by omega
  rcases M with rfl|rfl|rfl|rfl|rfl|rfl|rfl|rfl|rfl|rfl
  ·have d:=za (fun(_:Unit)=>uv s _ _ 4 wr c.out.tx c.out.k1 (by omega) (by omega));by_cases h:4<=s.size
   ·simp only[zi h]at d;go_wp2_with fail
    refine(d.out ()).mono ?_;rintro e o ⟨rfl,rfl⟩;go_wp2;go_roundw
    case rel=>exact⟨1,_,_,by omega,rfl,c.out,l.out.st0 h,j.out⟩
    case measure=>simp[intOf]
   simp only[zh h]at d;have u:=za (cM.no0 (m:=m) (most:=most) h);go_wp2_with fail
   refine(d.out ()).mono ?_;rintro e o ⟨rfl,rfl⟩;obtain⟨g0,g1,g2,f0,f1,f2⟩:=aZ c.out.fr;go_wp2;have x:=za (oS c.out.fr (.int .u64 0) (.string ⟨#[]⟩) (.string ⟨#[]⟩));obtain⟨r,p,q,_,_,_⟩:=aZ x.out;refine zk (v:= .tuple #[.agg #[.int .u64 0,.string ⟨#[]⟩,.string ⟨#[]⟩],.int .i64 0,.int .i64 2]) (by simp[results,xh,go_sem,r,p,q]) rfl ?_;rw[u.out];exact⟨rfl,kL j.out (by omega) _ _ _⟩
  ·have d:=za (fun(_:Unit)=>Ut s _ _ _ m wr c.out.tx c.out.nu c.out.mg C (by omega) (l.out.q0 (by omega)));by_cases h:du (s.extract 0 4).data.toList=m
   ·simp only[zi h]at d;have E:s.extract 0 4=rm m:=(Pw _ _ (aq _ _ _ (l.out.q0 (by omega))) C).2 h;have B:=za E;clear h E;go_wp2_with fail
    refine(d.out ()).mono ?_;rintro e o ⟨rfl,n,rfl⟩;replace c:=za (c.out.Lw (w':=wr.drewN n) (by intro k H;simp));replace j:Hid (Below w.heap.size w (wr.drewN n)):=za (Below.bJ j.out n);go_wp2;go_roundw
    case rel=>exact⟨2,_,_,by omega,rfl,c.out,l.out.fF B.out,j.out⟩
    case measure=>simp[intOf]
   simp only[zh h]at d;have u:=za (l.out.no1 C h);clear h;go_wp2_with fail
   refine(d.out ()).mono ?_;rintro e o ⟨rfl,n,rfl⟩;replace c:=za (c.out.Lw (w':=wr.drewN n) (by intro k H;simp));replace j:Hid (Below w.heap.size w (wr.drewN n)):=za (Below.bJ j.out n);obtain⟨g0,g1,g2,f0,f1,f2⟩:=aZ c.out.fr;go_wp2;have x:=za (oS c.out.fr (.int .u64 0) (.string ⟨#[]⟩) (.string ⟨#[]⟩));obtain⟨r,p,q,_,_,_⟩:=aZ x.out;refine zk (v:= .tuple #[.agg #[.int .u64 0,.string ⟨#[]⟩,.string ⟨#[]⟩],.int .i64 0,.int .i64 9]) (by simp[results,xh,go_sem,r,p,q]) rfl ?_;rw[u.out];exact⟨rfl,kL j.out (by omega) _ _ _⟩
  ·have d:=za (fun(_:Unit)=>uv s _ _ 16 wr c.out.tx c.out.k2 (by omega) (by omega));by_cases h:16<=s.size
   ·simp only[zi h]at d;go_wp2_with fail
    refine(d.out ()).mono ?_;rintro e o ⟨rfl,rfl⟩;go_wp2;go_roundw
    case rel=>exact⟨3,_,_,by omega,rfl,c.out,l.out.SX h,j.out⟩
    case measure=>simp[intOf]
   simp only[zh h]at d;have u:=za (l.out.no2 h);go_wp2_with fail
   refine(d.out ()).mono ?_;rintro e o ⟨rfl,rfl⟩;obtain⟨g0,g1,g2,f0,f1,f2⟩:=aZ c.out.fr;go_wp2;have x:=za (oS c.out.fr (.int .u64 0) (.string ⟨#[]⟩) (.string ⟨#[]⟩));obtain⟨r,p,q,_,_,_⟩:=aZ x.out;refine zk (v:= .tuple #[.agg #[.int .u64 0,.string ⟨#[]⟩,.string ⟨#[]⟩],.int .i64 0,.int .i64 2]) (by simp[results,xh,go_sem,r,p,q]) rfl ?_;rw[u.out];exact⟨rfl,kL j.out (by omega) _ _ _⟩
  ·have d:=za (fun(_:Unit)=>Uu s _ _ _ wr c.out.tx c.out.na (by omega) (by omega) (l.out.q2 (by omega)));rcases sE (s.extract 4 16)with hg|⟨t,hg⟩
   ·have u:=za (l.out.no3 hg);simp only[hg]at d;clear hg;replace c:=za (c.out.name ByteArray.empty);replace j:Hid (Below w.heap.size w (wr.setCell ⟨w.heap.size+1+1+1+1,0,none⟩ (.string ByteArray.empty))):=za (j.out.setCell (by show w.heap.size<=w.heap.size+1+1+1+1;omega) _);go_wp2_with fail
    refine(d.out ()).mono ?_;rintro e o ⟨rfl,rfl⟩;obtain⟨g0,g1,g2,f0,f1,f2⟩:=aZ c.out.fr;go_wp2;have x:=za (oS c.out.fr (.int .u64 0) (.string ⟨#[]⟩) (.string ⟨#[]⟩));obtain⟨r,p,q,_,_,_⟩:=aZ x.out;refine zk (v:= .tuple #[.agg #[.int .u64 0,.string ⟨#[]⟩,.string ⟨#[]⟩],.int .i64 0,.int .i64 3]) (by simp[results,xh,go_sem,r,p,q]) rfl ?_;rw[u.out];exact⟨rfl,kL j.out (by omega) _ _ _⟩
   have O:=za hg;simp only[hg]at d;clear hg;replace c:=za (c.out.name t);replace j:Hid (Below w.heap.size w (wr.setCell ⟨w.heap.size+1+1+1+1,0,none⟩ (.string t))):=za (j.out.setCell (by show w.heap.size<=w.heap.size+1+1+1+1;omega) _);go_wp2_with fail
   refine(d.out ()).mono ?_;rintro e o ⟨rfl,rfl⟩;go_wp2;go_roundw
   case rel=>exact⟨4,_,_,by omega,rfl,c.out,l.out.st3 O.out,j.out⟩
   case measure=>simp[intOf]
  ·have d:=za (fun(_:Unit)=>uv s _ _ 20 wr c.out.tx c.out.k3 (by omega) (by omega));by_cases h:20<=s.size
   ·simp only[zi h]at d;go_wp2_with fail
    refine(d.out ()).mono ?_;rintro e o ⟨rfl,rfl⟩;go_wp2;go_roundw
    case rel=>exact⟨5,_,_,by omega,rfl,c.out,l.out.st4 h,j.out⟩
    case measure=>simp[intOf]
   simp only[zh h]at d;have u:=za (l.out.no4 h);go_wp2_with fail
   refine(d.out ()).mono ?_;rintro e o ⟨rfl,rfl⟩;obtain⟨g0,g1,g2,f0,f1,f2⟩:=aZ c.out.fr;go_wp2;have x:=za (oS c.out.fr (.int .u64 0) (.string ⟨#[]⟩) (.string ⟨#[]⟩));obtain⟨r,p,q,_,_,_⟩:=aZ x.out;refine zk (v:= .tuple #[.agg #[.int .u64 0,.string ⟨#[]⟩,.string ⟨#[]⟩],.int .i64 0,.int .i64 2]) (by simp[results,xh,go_sem,r,p,q]) rfl ?_;rw[u.out];exact⟨rfl,kL j.out (by omega) _ _ _⟩
  ·have d:=za (fun(_:Unit)=>X1 s _ _ _ _ _ most wr c.out.tx c.out.nu c.out.le c.out.mo (by omega) (by omega) (l.out.q4 (by omega)));replace c:=za (c.out.len (du (s.extract 16 20).data.toList));replace j:Hid (Below w.heap.size w (wr.setCell ⟨w.heap.size+1+1+1+1+1,0,none⟩ (.int .i64 (du (s.extract 16 20).data.toList)))):=za (j.out.setCell (by show w.heap.size<=w.heap.size+1+1+1+1+1;omega) _);by_cases h:(du (s.extract 16 20).data.toList:Int)<=most
   ·simp only[zi h]at d;have B:=za (l.out.st5 h);clear h;generalize du (s.extract 16 20).data.toList=N at*;go_wp2_with fail
    refine(d.out ()).mono ?_;rintro e o ⟨rfl,rfl⟩;go_wp2;go_roundw
    case rel=>exact⟨6,_,_,by omega,rfl,c.out,B.out,j.out⟩
    case measure=>simp[intOf]
   simp only[zh h]at d;have u:=za (l.out.no5 h);clear h;generalize du (s.extract 16 20).data.toList=N at*;go_wp2_with fail
   refine(d.out ()).mono ?_;rintro e o ⟨rfl,rfl⟩;obtain⟨g0,g1,g2,f0,f1,f2⟩:=aZ c.out.fr;go_wp2;have x:=za (oS c.out.fr (.int .u64 0) (.string ⟨#[]⟩) (.string ⟨#[]⟩));obtain⟨r,p,q,_,_,_⟩:=aZ x.out;refine zk (v:= .tuple #[.agg #[.int .u64 0,.string ⟨#[]⟩,.string ⟨#[]⟩],.int .i64 0,.int .i64 5]) (by simp[results,xh,go_sem,r,p,q]) rfl ?_;rw[u.out];exact⟨rfl,kL j.out (by omega) _ _ _⟩
  ·have d:=za (fun(_:Unit)=>uv s _ _ 24 wr c.out.tx c.out.k4 (by omega) (by omega));by_cases h:24<=s.size
   ·simp only[zi h]at d;go_wp2_with fail
    refine(d.out ()).mono ?_;rintro e o ⟨rfl,rfl⟩;go_wp2;go_roundw
    case rel=>exact⟨7,_,_,by omega,rfl,c.out,l.out.st6 h,j.out⟩
    case measure=>simp[intOf]
   simp only[zh h]at d;have u:=za (l.out.no7 (by omega));go_wp2_with fail
   refine(d.out ()).mono ?_;rintro e o ⟨rfl,rfl⟩;obtain⟨g0,g1,g2,f0,f1,f2⟩:=aZ c.out.fr;go_wp2;have x:=za (oS c.out.fr (.int .u64 0) (.string ⟨#[]⟩) (.string ⟨#[]⟩));obtain⟨r,p,q,_,_,_⟩:=aZ x.out;refine zk (v:= .tuple #[.agg #[.int .u64 0,.string ⟨#[]⟩,.string ⟨#[]⟩],.int .i64 0,.int .i64 2]) (by simp[results,xh,go_sem,r,p,q]) rfl ?_;rw[u.out];exact⟨rfl,kL j.out (by omega) _ _ _⟩
  ·have F:y<4294967296:=by
    rw[(l.out.q5 (by omega)).1];exact uf _ (aq _ _ _ (l.out.q4 (by omega)))
   have d:=za (fun(_:Unit)=>Uv s _ _ y wr c.out.tx c.out.le (by omega) F);clear F;by_cases h:24+y<=s.size
   ·simp only[zi h]at d;go_wp2_with fail
    refine(d.out ()).mono ?_;rintro e o ⟨rfl,rfl⟩;go_wp2;go_roundw
    case rel=>exact⟨8,_,_,by omega,rfl,c.out,l.out.st7 h,j.out⟩
    case measure=>simp[intOf]
   simp only[zh h]at d;have u:=za (cM.agE l.out h);go_wp2_with fail
   refine(d.out ()).mono ?_;rintro e o ⟨rfl,rfl⟩;obtain⟨g0,g1,g2,f0,f1,f2⟩:=aZ c.out.fr;go_wp2;have x:=za (oS c.out.fr (.int .u64 0) (.string ⟨#[]⟩) (.string ⟨#[]⟩));obtain⟨r,p,q,_,_,_⟩:=aZ x.out;refine zk (v:= .tuple #[.agg #[.int .u64 0,.string ⟨#[]⟩,.string ⟨#[]⟩],.int .i64 0,.int .i64 2]) (by simp[results,xh,go_sem,r,p,q]) rfl ?_;rw[u.out];exact⟨rfl,kL j.out (by omega) _ _ _⟩
  ·have d:=za (fun(_:Unit)=>X3 s _ _ y wr c.out.tx c.out.le S (l.out.q7 (by omega)) (by have:=(l.out.q5 (by omega)).2;have:=l.out.q7 (by omega);omega));by_cases h:eZ (s.extract 24 (24+y))=s.extract 20 24
   ·simp only[zi h]at d;have B:=za h;clear h;go_wp2_with fail
    refine(d.out ()).mono ?_;rintro e o ⟨rfl,z⟩;replace c:=za (c.out.Lw (w':=o) z.block);replace j:Hid (Below w.heap.size w o):=za (j.out.trans (z.mono j.out.size));clear z;go_wp2;go_roundw
    case rel=>exact⟨9,_,_,by omega,rfl,c.out,l.out.st8 B.out,j.out⟩
    case measure=>simp[intOf]
   simp only[zh h]at d;have u:=za (l.out.no8 h);clear h;go_wp2_with fail
   refine(d.out ()).mono ?_;rintro e o ⟨rfl,z⟩;replace c:=za (c.out.Lw (w':=o) z.block);replace j:Hid (Below w.heap.size w o):=za (j.out.trans (z.mono j.out.size));clear z;obtain⟨g0,g1,g2,f0,f1,f2⟩:=aZ c.out.fr;go_wp2;have x:=za (oS c.out.fr (.int .u64 0) (.string ⟨#[]⟩) (.string ⟨#[]⟩));obtain⟨r,p,q,_,_,_⟩:=aZ x.out;refine zk (v:= .tuple #[.agg #[.int .u64 0,.string ⟨#[]⟩,.string ⟨#[]⟩],.int .i64 0,.int .i64 10]) (by simp[results,xh,go_sem,r,p,q]) rfl ?_;rw[u.out];exact⟨rfl,kL j.out (by omega) _ _ _⟩
  have u:=za l.out.yes;have U:=l.out.q7 (by omega);have DO:(24:Int)+y<=s.size:=by omega
  have W:(0:Int)<=24+y:=by omega
  have p3:(24:Int)<=s.size:=by omega
  have Z:IntKind.i64.wrap (24+(y:Int))=24+y:=yc _ (by omega);have p5:(24+(y:Int)).toNat=24+y:=by omega
  have n1:wr.cell? ⟨w.heap.size+1+1+1+1,0,none⟩=some (.string nm):=ya c.out.na;have n2:wr.cell? ⟨w.heap.size+1+1,0,none⟩=some (.string s):=ya c.out.tx;have R:wr.cell? ⟨w.heap.size+1+1+1+1+1,0,none⟩=some (.int .i64 y):=ya c.out.le;obtain⟨g0,g1,g2,f0,f1,f2⟩:=aZ c.out.fr;clear A;go_wp2;go_region
  have x:=za (oS c.out.fr (.int .u64 0) (.string nm) (.string (s.extract 24 (24+y))));obtain⟨r,p,q,_,_,_⟩:=aZ x.out;clear g0 g1 g2 f0 f1 f2 n1 n2 R;go_wp2;refine zk (v:= .tuple #[.agg #[.int .u64 0,.string nm,.string (s.extract 24 (24+y))],.int .i64 (24+y:Int),.int .i64 0]) (by simp[results,xh,go_sem,r,p,q]) rfl ?_;rw[u.out];exact⟨rfl,(kL j.out (by omega) _ _ _).drew⟩
