/- coin.Next. -/
import Derived.Test.YtdbmifjankgfpaaGreatDoorKA17
set_option linter.all false
set_option maxRecDepth 100000
set_option maxHeartbeats 4000000
open Go.Proofs.Tryz
namespace Go.Proofs.YtdbmifjankgfpaaGreatDoor
open Go.RowKit
variable {m d:Nat}{most:Int}{s nm:ByteArray}{w:World}
def xh:=@results73
structure cI (m:Nat)(most:Int)(s nm:ByteArray)(ln k:Nat):Prop where
 q0:1<=k->4<=s.size
 q1:2<=k->s.extract 0 4=qa m
 q2:3<=k->16<=s.size
 q3:4<=k->da (s.extract 4 16)=(0,nm)
 q4:5<=k->20<=s.size
 q5:6<=k->ln=dh (s.extract 16 20).data.toList/\(ln:Int)<=most
 q6:7<=k->24<=s.size
 q7:8<=k->24+ln<=s.size
 q8:9<=k->eT (s.extract 24 (24+ln))=s.extract 20 24
structure K8 (w:World)(b m:Nat)(most:Int)(s nm:ByteArray)(ln:Nat):Prop where
 mg:af w b 22 #[.int .u32 m]
 mo:af w (b+1) 3 #[.int .i64 most]
 tx:af w (b+1+1) 9 #[.string s]
 fr:af w (b+1+1+1) 84 #[.int .u64 0,.string ⟨#[]⟩,.string ⟨#[]⟩]
 na:af w (b+1+1+1+1) 9 #[.string nm]
 le:af w (b+1+1+1+1+1) 3 #[.int .i64 ln]
 nu:af w (b+1+1+1+1+1+1) 157 #[VC (b+1+1)]
 k1:af w (b+1+1+1+1+1+1+1) 3 #[.int .i64 (4:Nat)]
 k2:af w (b+1+1+1+1+1+1+1+1) 3 #[.int .i64 (16:Nat)]
 k3:af w (b+1+1+1+1+1+1+1+1+1) 3 #[.int .i64 (20:Nat)]
 k4:af w (b+1+1+1+1+1+1+1+1+1+1) 3 #[.int .i64 (24:Nat)]
theorem K8.K9 {w':World}{b:Nat}(h:K8 w b m most s nm d)(c:∀k,k<w.heap.size->w'.heap[k]?=w.heap[k]?):K8 w' b m most s nm d:=
 ⟨(c _ h.mg.lt).trans h.mg,(c _ h.mo.lt).trans h.mo,(c _ h.tx.lt).trans h.tx,(c _ h.fr.lt).trans h.fr,(c _ h.na.lt).trans h.na,(c _ h.le.lt).trans h.le,(c _ h.nu.lt).trans h.nu,(c _ h.k1.lt).trans h.k1,(c _ h.k2.lt).trans h.k2,(c _ h.k3.lt).trans h.k3,(c _ h.k4.lt).trans h.k4⟩
theorem K8.name {b:Nat}{c:Nat}(h:K8 w b m most s nm c)(d:ByteArray):K8 (w.setCell ⟨b+1+1+1+1,0,none⟩ (.string d)) b m most s d c:=
 ⟨h.mg.dN (by intro e;dsimp only at e;omega) _,h.mo.dN (by intro e;dsimp only at e;omega) _,h.tx.dN (by intro e;dsimp only at e;omega) _,h.fr.dN (by intro e;dsimp only at e;omega) _,one_setCell h.na,h.le.dN (by intro e;dsimp only at e;omega) _,h.nu.dN (by intro e;dsimp only at e;omega) _,h.k1.dN (by intro e;dsimp only at e;omega) _,h.k2.dN (by intro e;dsimp only at e;omega) _,h.k3.dN (by intro e;dsimp only at e;omega) _,h.k4.dN (by intro e;dsimp only at e;omega) _⟩
theorem K8.len {b:Nat}(h:K8 w b m most s nm d)(c:Nat):K8 (w.setCell ⟨b+1+1+1+1+1,0,none⟩ (.int .i64 c)) b m most s nm c:=
 ⟨h.mg.dN (by intro e;dsimp only at e;omega) _,h.mo.dN (by intro e;dsimp only at e;omega) _,h.tx.dN (by intro e;dsimp only at e;omega) _,h.fr.dN (by intro e;dsimp only at e;omega) _,h.na.dN (by intro e;dsimp only at e;omega) _,one_setCell h.le,h.nu.dN (by intro e;dsimp only at e;omega) _,h.k1.dN (by intro e;dsimp only at e;omega) _,h.k2.dN (by intro e;dsimp only at e;omega) _,h.k3.dN (by intro e;dsimp only at e;omega) _,h.k4.dN (by intro e;dsimp only at e;omega) _⟩
theorem cI.zero {b:Nat}:cI m most s nm b 0:=⟨by omega,by omega,by omega,by omega,by omega,by omega,by omega,by omega,by omega⟩
theorem cI.no0 (h:¬4<=s.size):aW m most s=(2,ByteArray.empty,ByteArray.empty,0):=by rw[fD,zi (by omega)]
theorem cI.no1 {b:Nat}(k:cI m most s nm b 1)(c:m<4294967296)(h:dh (s.extract 0 4).data.toList≠m):aW m most s=(9,ByteArray.empty,ByteArray.empty,0):=by
 have:=k.q0 (by omega);rw[fD,zh (by omega),zi];intro e;exact h ((Pf _ _ (an _ _ _ (by omega)) c).1 e)
theorem cI.no2 {b:Nat}(k:cI m most s nm b 2)(h:¬16<=s.size):aW m most s=(2,ByteArray.empty,ByteArray.empty,0):=by
 have:=k.q0 (by omega);rw[fD,zh (by omega),zh (by simpa using k.q1 (by omega)),zi (by omega)]
theorem cI.no3 {b:Nat}(k:cI m most s nm b 3)(h:da (s.extract 4 16)=(3,ByteArray.empty)):aW m most s=(3,ByteArray.empty,ByteArray.empty,0):=by
 have:=k.q2 (by omega);rw[fD,zh (by omega),zh (by simpa using k.q1 (by omega)),zh (by omega),zi (by rw[h];simp)]
theorem cI.no4 {b:Nat}(k:cI m most s nm b 4)(h:¬20<=s.size):aW m most s=(2,ByteArray.empty,ByteArray.empty,0):=by
 have:=k.q2 (by omega);rw[fD,zh (by omega),zh (by simpa using k.q1 (by omega)),zh (by omega),zh (by rw[k.q3 (by omega)];simp),zi (by omega)]
theorem cI.no5 {b:Nat}(k:cI m most s nm b 5)(h:¬(dh (s.extract 16 20).data.toList:Int)<=most):aW m most s=(5,ByteArray.empty,ByteArray.empty,0):=by
 have:=k.q4 (by omega);rw[fD,zh (by omega),zh (by simpa using k.q1 (by omega)),zh (by omega),zh (by rw[k.q3 (by omega)];simp),zh (by omega),zi (by omega)]
theorem cI.no7 {b:Nat}(k:cI m most s nm b 6)(h:¬24+b<=s.size):aW m most s=(2,ByteArray.empty,ByteArray.empty,0):=by
 have:=k.q4 (by omega);obtain⟨e,c⟩:=k.q5 (by omega);rw[e]at c h;rw[fD,zh (by omega),zh (by simpa using k.q1 (by omega)),zh (by omega),zh (by rw[k.q3 (by omega)];simp),zh (by omega),zh (by omega),zi (by omega)]
theorem cI.afR {b:Nat}(k:cI m most s nm b 7)(h:¬24+b<=s.size):aW m most s=(2,ByteArray.empty,ByteArray.empty,0):=
 cI.no7 ⟨k.q0∘fun _=>by omega,k.q1∘fun _=>by omega,k.q2∘fun _=>by omega,k.q3∘fun _=>by omega,k.q4∘fun _=>by omega,k.q5∘fun _=>by omega,by omega,by omega,by omega⟩ h
theorem cI.no8 {b:Nat}(k:cI m most s nm b 8)(h:¬eT (s.extract 24 (24+b))=s.extract 20 24):aW m most s=(10,ByteArray.empty,ByteArray.empty,0):=by
 have:=k.q4 (by omega);have c:=k.q7 (by omega);obtain⟨e,d⟩:=k.q5 (by omega);rw[e]at d h c;rw[fD,zh (by omega),zh (by simpa using k.q1 (by omega)),zh (by omega),zh (by rw[k.q3 (by omega)];simp),zh (by omega),zh (by omega),zh (by omega),zi h]
theorem cI.yes {b:Nat}(k:cI m most s nm b 9):aW m most s=(0,nm,s.extract 24 (24+b),24+b):=by
 have:=k.q4 (by omega);have d:=k.q7 (by omega);have c:=k.q8 (by omega);obtain⟨e,h⟩:=k.q5 (by omega);rw[e]at h d c⊢;rw[fD,zh (by omega),zh (by simpa using k.q1 (by omega)),zh (by omega),zh (by rw[k.q3 (by omega)];simp),zh (by omega),zh (by omega),zh (by omega),zh (by simpa using c),k.q3 (by omega)]
theorem cI.st0 {b:Nat}(h:cI m most s nm b 0)(c:4<=s.size):cI m most s nm b 1:=⟨fun _=>c,by omega,by omega,by omega,by omega,by omega,by omega,by omega,by omega⟩
theorem cI.fP {b:Nat}(h:cI m most s nm b 1)(c:s.extract 0 4=qa m):cI m most s nm b 2:=⟨fun _=>h.q0 (by omega),fun _=>c,by omega,by omega,by omega,by omega,by omega,by omega,by omega⟩
theorem cI.SN {b:Nat}(h:cI m most s nm b 2)(c:16<=s.size):cI m most s nm b 3:=⟨fun _=>h.q0 (by omega),fun _=>h.q1 (by omega),fun _=>c,by omega,by omega,by omega,by omega,by omega,by omega⟩
theorem cI.st3 {c:ByteArray}{b:Nat}(h:cI m most s nm b 3)(d:da (s.extract 4 16)=(0,c)):cI m most s c b 4:=⟨fun _=>h.q0 (by omega),fun _=>h.q1 (by omega),fun _=>h.q2 (by omega),fun _=>d,by omega,by omega,by omega,by omega,by omega⟩
theorem cI.st4 {b:Nat}(h:cI m most s nm b 4)(c:20<=s.size):cI m most s nm b 5:=⟨fun _=>h.q0 (by omega),fun _=>h.q1 (by omega),fun _=>h.q2 (by omega),fun _=>h.q3 (by omega),fun _=>c,by omega,by omega,by omega,by omega⟩
theorem cI.st5 {b:Nat}(h:cI m most s nm b 5)(c:(dh (s.extract 16 20).data.toList:Int)<=most):cI m most s nm (dh (s.extract 16 20).data.toList) 6:=⟨fun _=>h.q0 (by omega),fun _=>h.q1 (by omega),fun _=>h.q2 (by omega),fun _=>h.q3 (by omega),fun _=>h.q4 (by omega),fun _=>⟨rfl,c⟩,by omega,by omega,by omega⟩
theorem cI.st6 {b:Nat}(h:cI m most s nm b 6)(c:24<=s.size):cI m most s nm b 7:=⟨fun _=>h.q0 (by omega),fun _=>h.q1 (by omega),fun _=>h.q2 (by omega),fun _=>h.q3 (by omega),fun _=>h.q4 (by omega),fun _=>h.q5 (by omega),fun _=>c,by omega,by omega⟩
theorem cI.st7 {b:Nat}(h:cI m most s nm b 7)(c:24+b<=s.size):cI m most s nm b 8:=⟨fun _=>h.q0 (by omega),fun _=>h.q1 (by omega),fun _=>h.q2 (by omega),fun _=>h.q3 (by omega),fun _=>h.q4 (by omega),fun _=>h.q5 (by omega),fun _=>h.q6 (by omega),fun _=>c,by omega⟩
theorem cI.st8 {b:Nat}(h:cI m most s nm b 8)(c:eT (s.extract 24 (24+b))=s.extract 20 24):cI m most s nm b 9:=⟨fun _=>h.q0 (by omega),fun _=>h.q1 (by omega),fun _=>h.q2 (by omega),fun _=>h.q3 (by omega),fun _=>h.q4 (by omega),fun _=>h.q5 (by omega),fun _=>h.q6 (by omega),fun _=>h.q7 (by omega),fun _=>c⟩
theorem bV (d j c k e m b h l:Value)(w:World)(i:Nat)(hi:i<9):
 (Instr.index 161 (.agg #[d,j,c,k,e,m,b,h,l]) (.int .i64 i)).run prog w= .ok (#[d,j,c,k,e,m,b,h,l].getD i undef) w:=by
 have hd:=underlying161;have n:i=0\/i=1\/i=2\/i=3\/i=4\/i=5\/i=6\/i=7\/i=8:=by omega
 rcases n with rfl|rfl|rfl|rfl|rfl|rfl|rfl|rfl|rfl;all_goals
  simp[Instr.index,asIntOf,xT hd,go_sem]
theorem afS (b i d j e l c h k:Value)(w:World):(Instr.index 161 (.agg #[b,i,d,j,e,l,c,h,k]) (.int .i64 0)).run prog w= .ok b w:=bV b i d j e l c h k w 0 (by omega)
theorem afT (e b d j h l c i k:Value)(w:World):(Instr.index 161 (.agg #[e,b,d,j,h,l,c,i,k]) (.int .i64 1)).run prog w= .ok b w:=bV e b d j h l c i k w 1 (by omega)
theorem afU (d i b j e l c h k:Value)(w:World):(Instr.index 161 (.agg #[d,i,b,j,e,l,c,h,k]) (.int .i64 2)).run prog w= .ok b w:=bV d i b j e l c h k w 2 (by omega)
theorem afV (e j d b h l c i k:Value)(w:World):(Instr.index 161 (.agg #[e,j,d,b,h,l,c,i,k]) (.int .i64 3)).run prog w= .ok b w:=bV e j d b h l c i k w 3 (by omega)
theorem afW (e i d j b l c h k:Value)(w:World):(Instr.index 161 (.agg #[e,i,d,j,b,l,c,h,k]) (.int .i64 4)).run prog w= .ok b w:=bV e i d j b l c h k w 4 (by omega)
theorem afX (e j d k h b c i l:Value)(w:World):(Instr.index 161 (.agg #[e,j,d,k,h,b,c,i,l]) (.int .i64 5)).run prog w= .ok b w:=bV e j d k h b c i l w 5 (by omega)
theorem afY (d i c j e l b h k:Value)(w:World):(Instr.index 161 (.agg #[d,i,c,j,e,l,b,h,k]) (.int .i64 6)).run prog w= .ok b w:=bV d i c j e l b h k w 6 (by omega)
theorem afZ (e i d j h l c b k:Value)(w:World):(Instr.index 161 (.agg #[e,i,d,j,h,l,c,b,k]) (.int .i64 7)).run prog w= .ok b w:=bV e i d j h l c b k w 7 (by omega)
theorem af0 (e j d k h l c i b:Value)(w:World):(Instr.index 161 (.agg #[e,j,d,k,h,l,c,i,b]) (.int .i64 8)).run prog w= .ok b w:=bV e j d k h l c i b w 8 (by omega)
attribute [local go_sem] afS afT afU afV afW afX afY afZ af0
theorem aZ {g:Nat}{t:TypeId}{b:Array Value}(h:af w g t b)(o:Obj):af (w.alloc o) g t b:=h.alloc o
theorem nN (w:World)(t:TypeId)(b:Array Value)(n:Nat)(h:w.heap.size=n):af (w.alloc (.cells b t)) n t b:=by subst h;exact af.new w t b
theorem K8.made (w:World)(m:Nat)(most:Int)(s:ByteArray)(o:Obj):K8 ((((((((((((w.alloc (.cells #[.int .u32 m] 22)).alloc (.cells #[.int .i64 most] 3)).alloc (.cells #[.string s] 9)).alloc (.cells #[.int .u64 0,.string ⟨#[]⟩,.string ⟨#[]⟩] 84)).alloc (.cells #[.string ⟨#[]⟩] 9)).alloc (.cells #[.int .i64 0] 3)).alloc (.cells #[VC (w.heap.size+1+1)] 157)).alloc (.cells #[.int .i64 (4:Nat)] 3)).alloc (.cells #[.int .i64 (16:Nat)] 3)).alloc (.cells #[.int .i64 (20:Nat)] 3)).alloc (.cells #[.int .i64 (24:Nat)] 3)).alloc o) w.heap.size m most s ⟨#[]⟩ 0:=by
 constructor
 ·exact(aZ (aZ (aZ (aZ (aZ (aZ (aZ (aZ (aZ (aZ (aZ (nN _ _ _ _ (by simp)) _) _) _) _) _) _) _) _) _) _) _)
 ·exact(aZ (aZ (aZ (aZ (aZ (aZ (aZ (aZ (aZ (aZ (nN _ _ _ _ (by simp)) _) _) _) _) _) _) _) _) _) _)
 ·exact(aZ (aZ (aZ (aZ (aZ (aZ (aZ (aZ (aZ (nN _ _ _ _ (by simp)) _) _) _) _) _) _) _) _) _)
 ·exact(aZ (aZ (aZ (aZ (aZ (aZ (aZ (aZ (nN _ _ _ _ (by simp)) _) _) _) _) _) _) _) _)
 ·exact(aZ (aZ (aZ (aZ (aZ (aZ (aZ (nN _ _ _ _ (by simp)) _) _) _) _) _) _) _)
 ·exact(aZ (aZ (aZ (aZ (aZ (aZ (nN _ _ _ _ (by simp)) _) _) _) _) _) _)
 ·exact(aZ (aZ (aZ (aZ (aZ (nN _ _ _ _ (by simp)) _) _) _) _) _)
 ·exact(aZ (aZ (aZ (aZ (nN _ _ _ _ (by simp)) _) _) _) _)
 ·exact(aZ (aZ (aZ (nN _ _ _ _ (by simp)) _) _) _)
 ·exact(aZ (aZ (nN _ _ _ _ (by simp)) _) _)
 exact(aZ (nN _ _ _ _ (by simp)) _)
theorem Jt (m:Nat)(most:Int)(s:ByteArray)(w:World)(C:m<4294967296)(O:s.size<=1099511627776)(X: -9223372036854775808<=most/\most<=9223372036854775807)(W:(s.size:Int)<=90000\/most<=90000):
 Calls prog 73 #[.int .u32 m,.int .i64 most,.string s] w fun e w'=>e= .returned (aca (aW m most s))/\Below w.heap.size w w':=by
 have A:=za (fun b k w=>NN b k w);go_enter func73,ntmps73
 go_wp2_with fail
 refine(A.out _ 4 _).mono ?_;rintro e o ⟨rfl,rfl⟩;go_wp2_with fail
 refine(A.out _ 16 _).mono ?_;rintro e o ⟨rfl,rfl⟩;go_wp2_with fail
 refine(A.out _ 20 _).mono ?_;rintro e o ⟨rfl,rfl⟩;go_wp2_with fail
 refine(A.out _ 24 _).mono ?_;rintro e o ⟨rfl,rfl⟩;go_wp2_with fail
 generalize D:World.alloc _ (Obj.cells _ 161)=H;have M:Hid (K8 H w.heap.size m most s ⟨#[]⟩ 0):=za (by
  rw[<-D];exact K8.made w m most s _)
 have K:Hid (Below w.heap.size w H):=za (by rw[<-D];exact bT);clear D;go_loopw [34] (fun i wr=>∃(k:Nat) (nm:ByteArray) (y:Nat),k<=9/\i= .int .i64 k/\K8 wr w.heap.size m most s nm y/\cI m most s nm y k/\Below w.heap.size w wr) (fun i _=>9-(intOf i).toNat)
 case atStart=>exact⟨0,_,_,by omega,rfl,M.out,cI.zero,K.out⟩
 case round=>
  obtain⟨k,nm,y,J,rfl,hS,F,E⟩:=hrel;have c:=za hS;have l:=za F;have j:=za E;clear hS F E;have L:k=0\/k=1\/k=2\/k=3\/k=4\/k=5\/k=6\/k=7\/k=8\/k=9:=by omega
  rcases L with rfl|rfl|rfl|rfl|rfl|rfl|rfl|rfl|rfl|rfl
  ·have d:=za (fun(_:Unit)=>ur s _ _ 4 wr c.out.tx c.out.k1 (by omega) (by omega));by_cases h:4<=s.size
   ·simp only[zi h]at d;go_wp2_with fail
    refine(d.out ()).mono ?_;rintro e o ⟨rfl,rfl⟩;go_wp2;go_roundw
    case rel=>exact⟨1,_,_,by omega,rfl,c.out,l.out.st0 h,j.out⟩
    case measure=>simp[intOf]
   simp only[zh h]at d;have u:=za (cI.no0 (m:=m) (most:=most) h);go_wp2_with fail
   refine(d.out ()).mono ?_;rintro e o ⟨rfl,rfl⟩;obtain⟨g0,g1,g2,f0,f1,f2⟩:=a8 c.out.fr;go_wp2;have x:=za (oV c.out.fr (.int .u64 0) (.string ⟨#[]⟩) (.string ⟨#[]⟩));obtain⟨r,q,p,_,_,_⟩:=a8 x.out;refine zj (v:= .tuple #[.agg #[.int .u64 0,.string ⟨#[]⟩,.string ⟨#[]⟩],.int .i64 0,.int .i64 2]) (by simp[results,xh,go_sem,r,q,p]) rfl ?_;rw[u.out];exact⟨rfl,kM j.out (by omega) _ _ _⟩
  ·have d:=za (fun(_:Unit)=>Uo s _ _ _ m wr c.out.tx c.out.nu c.out.mg C (by omega) (l.out.q0 (by omega)));by_cases h:dh (s.extract 0 4).data.toList=m
   ·simp only[zi h]at d;have I:s.extract 0 4=qa m:=(Pf _ _ (an _ _ _ (l.out.q0 (by omega))) C).2 h;have B:=za I;clear h I;go_wp2_with fail
    refine(d.out ()).mono ?_;rintro e o ⟨rfl,n,rfl⟩;replace c:=za (c.out.K9 (w':=wr.drewN n) (by intro k J;simp));replace j:Hid (Below w.heap.size w (wr.drewN n)):=za (Below.bs j.out n);go_wp2;go_roundw
    case rel=>exact⟨2,_,_,by omega,rfl,c.out,l.out.fP B.out,j.out⟩
    case measure=>simp[intOf]
   simp only[zh h]at d;have u:=za (l.out.no1 C h);clear h;go_wp2_with fail
   refine(d.out ()).mono ?_;rintro e o ⟨rfl,n,rfl⟩;replace c:=za (c.out.K9 (w':=wr.drewN n) (by intro k J;simp));replace j:Hid (Below w.heap.size w (wr.drewN n)):=za (Below.bs j.out n);obtain⟨g0,g1,g2,f0,f1,f2⟩:=a8 c.out.fr;go_wp2;have x:=za (oV c.out.fr (.int .u64 0) (.string ⟨#[]⟩) (.string ⟨#[]⟩));obtain⟨r,q,p,_,_,_⟩:=a8 x.out;refine zj (v:= .tuple #[.agg #[.int .u64 0,.string ⟨#[]⟩,.string ⟨#[]⟩],.int .i64 0,.int .i64 9]) (by simp[results,xh,go_sem,r,q,p]) rfl ?_;rw[u.out];exact⟨rfl,kM j.out (by omega) _ _ _⟩
  ·have d:=za (fun(_:Unit)=>ur s _ _ 16 wr c.out.tx c.out.k2 (by omega) (by omega));by_cases h:16<=s.size
   ·simp only[zi h]at d;go_wp2_with fail
    refine(d.out ()).mono ?_;rintro e o ⟨rfl,rfl⟩;go_wp2;go_roundw
    case rel=>exact⟨3,_,_,by omega,rfl,c.out,l.out.SN h,j.out⟩
    case measure=>simp[intOf]
   simp only[zh h]at d;have u:=za (l.out.no2 h);go_wp2_with fail
   refine(d.out ()).mono ?_;rintro e o ⟨rfl,rfl⟩;obtain⟨g0,g1,g2,f0,f1,f2⟩:=a8 c.out.fr;go_wp2;have x:=za (oV c.out.fr (.int .u64 0) (.string ⟨#[]⟩) (.string ⟨#[]⟩));obtain⟨r,q,p,_,_,_⟩:=a8 x.out;refine zj (v:= .tuple #[.agg #[.int .u64 0,.string ⟨#[]⟩,.string ⟨#[]⟩],.int .i64 0,.int .i64 2]) (by simp[results,xh,go_sem,r,q,p]) rfl ?_;rw[u.out];exact⟨rfl,kM j.out (by omega) _ _ _⟩
  ·have d:=za (fun(_:Unit)=>Up s _ _ _ wr c.out.tx c.out.na (by omega) (by omega) (l.out.q2 (by omega)));rcases sK (s.extract 4 16)with hg|⟨t,hg⟩
   ·have u:=za (l.out.no3 hg);simp only[hg]at d;clear hg;replace c:=za (c.out.name ByteArray.empty);replace j:Hid (Below w.heap.size w (wr.setCell ⟨w.heap.size+1+1+1+1,0,none⟩ (.string ByteArray.empty))):=za (j.out.setCell (by show w.heap.size<=w.heap.size+1+1+1+1;omega) _);go_wp2_with fail
    refine(d.out ()).mono ?_;rintro e o ⟨rfl,rfl⟩;obtain⟨g0,g1,g2,f0,f1,f2⟩:=a8 c.out.fr;go_wp2;have x:=za (oV c.out.fr (.int .u64 0) (.string ⟨#[]⟩) (.string ⟨#[]⟩));obtain⟨r,q,p,_,_,_⟩:=a8 x.out;refine zj (v:= .tuple #[.agg #[.int .u64 0,.string ⟨#[]⟩,.string ⟨#[]⟩],.int .i64 0,.int .i64 3]) (by simp[results,xh,go_sem,r,q,p]) rfl ?_;rw[u.out];exact⟨rfl,kM j.out (by omega) _ _ _⟩
   have R:=za hg;simp only[hg]at d;clear hg;replace c:=za (c.out.name t);replace j:Hid (Below w.heap.size w (wr.setCell ⟨w.heap.size+1+1+1+1,0,none⟩ (.string t))):=za (j.out.setCell (by show w.heap.size<=w.heap.size+1+1+1+1;omega) _);go_wp2_with fail
   refine(d.out ()).mono ?_;rintro e o ⟨rfl,rfl⟩;go_wp2;go_roundw
   case rel=>exact⟨4,_,_,by omega,rfl,c.out,l.out.st3 R.out,j.out⟩
   case measure=>simp[intOf]
  ·have d:=za (fun(_:Unit)=>ur s _ _ 20 wr c.out.tx c.out.k3 (by omega) (by omega));by_cases h:20<=s.size
   ·simp only[zi h]at d;go_wp2_with fail
    refine(d.out ()).mono ?_;rintro e o ⟨rfl,rfl⟩;go_wp2;go_roundw
    case rel=>exact⟨5,_,_,by omega,rfl,c.out,l.out.st4 h,j.out⟩
    case measure=>simp[intOf]
   simp only[zh h]at d;have u:=za (l.out.no4 h);go_wp2_with fail
   refine(d.out ()).mono ?_;rintro e o ⟨rfl,rfl⟩;obtain⟨g0,g1,g2,f0,f1,f2⟩:=a8 c.out.fr;go_wp2;have x:=za (oV c.out.fr (.int .u64 0) (.string ⟨#[]⟩) (.string ⟨#[]⟩));obtain⟨r,q,p,_,_,_⟩:=a8 x.out;refine zj (v:= .tuple #[.agg #[.int .u64 0,.string ⟨#[]⟩,.string ⟨#[]⟩],.int .i64 0,.int .i64 2]) (by simp[results,xh,go_sem,r,q,p]) rfl ?_;rw[u.out];exact⟨rfl,kM j.out (by omega) _ _ _⟩
  ·have d:=za (fun(_:Unit)=>XL s _ _ _ _ _ most wr c.out.tx c.out.nu c.out.le c.out.mo (by omega) (by omega) (l.out.q4 (by omega)));replace c:=za (c.out.len (dh (s.extract 16 20).data.toList));replace j:Hid (Below w.heap.size w (wr.setCell ⟨w.heap.size+1+1+1+1+1,0,none⟩ (.int .i64 (dh (s.extract 16 20).data.toList)))):=za (j.out.setCell (by show w.heap.size<=w.heap.size+1+1+1+1+1;omega) _);by_cases h:(dh (s.extract 16 20).data.toList:Int)<=most
   ·simp only[zi h]at d;have B:=za (l.out.st5 h);clear h;generalize dh (s.extract 16 20).data.toList=N at*;go_wp2_with fail
    refine(d.out ()).mono ?_;rintro e o ⟨rfl,rfl⟩;go_wp2;go_roundw
    case rel=>exact⟨6,_,_,by omega,rfl,c.out,B.out,j.out⟩
    case measure=>simp[intOf]
   simp only[zh h]at d;have u:=za (l.out.no5 h);clear h;generalize dh (s.extract 16 20).data.toList=N at*;go_wp2_with fail
   refine(d.out ()).mono ?_;rintro e o ⟨rfl,rfl⟩;obtain⟨g0,g1,g2,f0,f1,f2⟩:=a8 c.out.fr;go_wp2;have x:=za (oV c.out.fr (.int .u64 0) (.string ⟨#[]⟩) (.string ⟨#[]⟩));obtain⟨r,q,p,_,_,_⟩:=a8 x.out;refine zj (v:= .tuple #[.agg #[.int .u64 0,.string ⟨#[]⟩,.string ⟨#[]⟩],.int .i64 0,.int .i64 5]) (by simp[results,xh,go_sem,r,q,p]) rfl ?_;rw[u.out];exact⟨rfl,kM j.out (by omega) _ _ _⟩
  ·have d:=za (fun(_:Unit)=>ur s _ _ 24 wr c.out.tx c.out.k4 (by omega) (by omega));by_cases h:24<=s.size
   ·simp only[zi h]at d;go_wp2_with fail
    refine(d.out ()).mono ?_;rintro e o ⟨rfl,rfl⟩;go_wp2;go_roundw
    case rel=>exact⟨7,_,_,by omega,rfl,c.out,l.out.st6 h,j.out⟩
    case measure=>simp[intOf]
   simp only[zh h]at d;have u:=za (l.out.no7 (by omega));go_wp2_with fail
   refine(d.out ()).mono ?_;rintro e o ⟨rfl,rfl⟩;obtain⟨g0,g1,g2,f0,f1,f2⟩:=a8 c.out.fr;go_wp2;have x:=za (oV c.out.fr (.int .u64 0) (.string ⟨#[]⟩) (.string ⟨#[]⟩));obtain⟨r,q,p,_,_,_⟩:=a8 x.out;refine zj (v:= .tuple #[.agg #[.int .u64 0,.string ⟨#[]⟩,.string ⟨#[]⟩],.int .i64 0,.int .i64 2]) (by simp[results,xh,go_sem,r,q,p]) rfl ?_;rw[u.out];exact⟨rfl,kM j.out (by omega) _ _ _⟩
  ·have G:y<4294967296:=by
    rw[(l.out.q5 (by omega)).1];exact qb _ (an _ _ _ (l.out.q4 (by omega)))
   have d:=za (fun(_:Unit)=>Uq s _ _ y wr c.out.tx c.out.le (by omega) G);clear G;by_cases h:24+y<=s.size
   ·simp only[zi h]at d;go_wp2_with fail
    refine(d.out ()).mono ?_;rintro e o ⟨rfl,rfl⟩;go_wp2;go_roundw
    case rel=>exact⟨8,_,_,by omega,rfl,c.out,l.out.st7 h,j.out⟩
    case measure=>simp[intOf]
   simp only[zh h]at d;have u:=za (cI.afR l.out h);go_wp2_with fail
   refine(d.out ()).mono ?_;rintro e o ⟨rfl,rfl⟩;obtain⟨g0,g1,g2,f0,f1,f2⟩:=a8 c.out.fr;go_wp2;have x:=za (oV c.out.fr (.int .u64 0) (.string ⟨#[]⟩) (.string ⟨#[]⟩));obtain⟨r,q,p,_,_,_⟩:=a8 x.out;refine zj (v:= .tuple #[.agg #[.int .u64 0,.string ⟨#[]⟩,.string ⟨#[]⟩],.int .i64 0,.int .i64 2]) (by simp[results,xh,go_sem,r,q,p]) rfl ?_;rw[u.out];exact⟨rfl,kM j.out (by omega) _ _ _⟩
  ·have d:=za (fun(_:Unit)=>XM s _ _ y wr c.out.tx c.out.le O (l.out.q7 (by omega)) (by have:=(l.out.q5 (by omega)).2;have:=l.out.q7 (by omega);omega));by_cases h:eT (s.extract 24 (24+y))=s.extract 20 24
   ·simp only[zi h]at d;have B:=za h;clear h;go_wp2_with fail
    refine(d.out ()).mono ?_;rintro e o ⟨rfl,z⟩;replace c:=za (c.out.K9 (w':=o) z.block);replace j:Hid (Below w.heap.size w o):=za (j.out.trans (z.mono j.out.size));clear z;go_wp2;go_roundw
    case rel=>exact⟨9,_,_,by omega,rfl,c.out,l.out.st8 B.out,j.out⟩
    case measure=>simp[intOf]
   simp only[zh h]at d;have u:=za (l.out.no8 h);clear h;go_wp2_with fail
   refine(d.out ()).mono ?_;rintro e o ⟨rfl,z⟩;replace c:=za (c.out.K9 (w':=o) z.block);replace j:Hid (Below w.heap.size w o):=za (j.out.trans (z.mono j.out.size));clear z;obtain⟨g0,g1,g2,f0,f1,f2⟩:=a8 c.out.fr;go_wp2;have x:=za (oV c.out.fr (.int .u64 0) (.string ⟨#[]⟩) (.string ⟨#[]⟩));obtain⟨r,q,p,_,_,_⟩:=a8 x.out;refine zj (v:= .tuple #[.agg #[.int .u64 0,.string ⟨#[]⟩,.string ⟨#[]⟩],.int .i64 0,.int .i64 10]) (by simp[results,xh,go_sem,r,q,p]) rfl ?_;rw[u.out];exact⟨rfl,kM j.out (by omega) _ _ _⟩
  have u:=za l.out.yes;have h7:=l.out.q7 (by omega);have Y:(24:Int)+y<=s.size:=by omega
  have U:(0:Int)<=24+y:=by omega
  have p3:(24:Int)<=s.size:=by omega
  have p4:IntKind.i64.wrap (24+(y:Int))=24+y:=zW _ (by omega);have Z:(24+(y:Int)).toNat=24+y:=by omega
  have n1:wr.cell? ⟨w.heap.size+1+1+1+1,0,none⟩=some (.string nm):=yd c.out.na;have n2:wr.cell? ⟨w.heap.size+1+1,0,none⟩=some (.string s):=yd c.out.tx;have S:wr.cell? ⟨w.heap.size+1+1+1+1+1,0,none⟩=some (.int .i64 y):=yd c.out.le;obtain⟨g0,g1,g2,f0,f1,f2⟩:=a8 c.out.fr;clear A;go_wp2;go_region
  have x:=za (oV c.out.fr (.int .u64 0) (.string nm) (.string (s.extract 24 (24+y))));obtain⟨r,q,p,_,_,_⟩:=a8 x.out;clear g0 g1 g2 f0 f1 f2 n1 n2 S;go_wp2;refine zj (v:= .tuple #[.agg #[.int .u64 0,.string nm,.string (s.extract 24 (24+y))],.int .i64 (24+y:Int),.int .i64 0]) (by simp[results,xh,go_sem,r,q,p]) rfl ?_;rw[u.out];exact⟨rfl,(kM j.out (by omega) _ _ _).drew⟩
