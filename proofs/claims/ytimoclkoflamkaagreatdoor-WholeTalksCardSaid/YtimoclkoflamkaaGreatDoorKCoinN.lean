/- coin.Next. -/
import Derived.Test.YtimoclkoflamkaaGreatDoorKA36
set_option linter.all false
set_option maxRecDepth 100000
set_option maxHeartbeats 4000000
open Go.Proofs.Tryz
namespace Go.Proofs.YtimoclkoflamkaaGreatDoor
open Go.RowKit
variable {m d:Nat}{most:Int}{s nm:ByteArray}{w:World}
def xe:=@results91
structure cH (m:Nat)(most:Int)(s nm:ByteArray)(ln k:Nat):Prop where
 q0:1<=k->4<=s.size
 q1:2<=k->s.extract 0 4=rV m
 q2:3<=k->16<=s.size
 q3:4<=k->cZ (s.extract 4 16)=(0,nm)
 q4:5<=k->20<=s.size
 q5:6<=k->ln=dg (s.extract 16 20).data.toList/\(ln:Int)<=most
 q6:7<=k->24<=s.size
 q7:8<=k->24+ln<=s.size
 q8:9<=k->eU (s.extract 24 (24+ln))=s.extract 20 24
structure MO (w:World)(b m:Nat)(most:Int)(s nm:ByteArray)(ln:Nat):Prop where
 mg:af w b 22 #[.int .u32 m]
 mo:af w (b+1) 3 #[most]
 tx:af w (b+1+1) 9 #[s]
 fr:af w (b+1+1+1) 103 #[.int .u64 0,eS,eS]
 na:af w (b+1+1+1+1) 9 #[nm]
 le:af w (b+1+1+1+1+1) 3 #[ln]
 nu:af w (b+1+1+1+1+1+1) 184 #[XP (b+1+1)]
 k1:af w (b+1+1+1+1+1+1+1) 3 #[(4:Nat)]
 k2:af w (b+1+1+1+1+1+1+1+1) 3 #[(16:Nat)]
 k3:af w (b+1+1+1+1+1+1+1+1+1) 3 #[(20:Nat)]
 k4:af w (b+1+1+1+1+1+1+1+1+1+1) 3 #[(24:Nat)]
theorem MO.MP {w':World}{b:Nat}(h:MO w b m most s nm d)(c:∀k,k<w.heap.size->w'.heap[k]?=w.heap[k]?):MO w' b m most s nm d:=
 ⟨(c _ h.mg.lt).trans h.mg,(c _ h.mo.lt).trans h.mo,(c _ h.tx.lt).trans h.tx,(c _ h.fr.lt).trans h.fr,(c _ h.na.lt).trans h.na,(c _ h.le.lt).trans h.le,(c _ h.nu.lt).trans h.nu,(c _ h.k1.lt).trans h.k1,(c _ h.k2.lt).trans h.k2,(c _ h.k3.lt).trans h.k3,(c _ h.k4.lt).trans h.k4⟩
theorem MO.name {b:Nat}{c:Nat}(h:MO w b m most s nm c)(d:ByteArray):MO (w.setCell (b+1+1+1+1,0) d) b m most s d c:=
 ⟨h.mg.dI (by intro e;dsimp only at e;omega) _,h.mo.dI (by intro e;dsimp only at e;omega) _,h.tx.dI (by intro e;dsimp only at e;omega) _,h.fr.dI (by intro e;dsimp only at e;omega) _,one_setCell h.na,h.le.dI (by intro e;dsimp only at e;omega) _,h.nu.dI (by intro e;dsimp only at e;omega) _,h.k1.dI (by intro e;dsimp only at e;omega) _,h.k2.dI (by intro e;dsimp only at e;omega) _,h.k3.dI (by intro e;dsimp only at e;omega) _,h.k4.dI (by intro e;dsimp only at e;omega) _⟩
theorem MO.len {b:Nat}(h:MO w b m most s nm d)(c:Nat):MO (w.setCell (b+1+1+1+1+1,0) c) b m most s nm c:=
 ⟨h.mg.dI (by intro e;dsimp only at e;omega) _,h.mo.dI (by intro e;dsimp only at e;omega) _,h.tx.dI (by intro e;dsimp only at e;omega) _,h.fr.dI (by intro e;dsimp only at e;omega) _,h.na.dI (by intro e;dsimp only at e;omega) _,one_setCell h.le,h.nu.dI (by intro e;dsimp only at e;omega) _,h.k1.dI (by intro e;dsimp only at e;omega) _,h.k2.dI (by intro e;dsimp only at e;omega) _,h.k3.dI (by intro e;dsimp only at e;omega) _,h.k4.dI (by intro e;dsimp only at e;omega) _⟩
theorem cH.zero {b:Nat}:cH m most s nm b 0:=⟨by omega,by omega,by omega,by omega,by omega,by omega,by omega,by omega,by omega⟩
theorem cH.no0 (h:¬4<=s.size):aZ m most s=(2,ByteArray.empty,ByteArray.empty,0):=by rw[fq,zg (by omega)]
theorem cH.no1 {c:Nat}(k:cH m most s nm c 1)(b:m<4294967296)(h:dg (s.extract 0 4).data.toList≠m):aZ m most s=(9,ByteArray.empty,ByteArray.empty,0):=by
 have:=k.q0 (by omega);rw[fq,zf (by omega),zg];intro e;exact h ((Q7 _ _ (ar _ _ _ (by omega)) b).1 e)
theorem cH.no2 {b:Nat}(k:cH m most s nm b 2)(h:¬16<=s.size):aZ m most s=(2,ByteArray.empty,ByteArray.empty,0):=by
 have:=k.q0 (by omega);rw[fq,zf (by omega),zf (by simpa using k.q1 (by omega)),zg (by omega)]
theorem cH.no3 {b:Nat}(k:cH m most s nm b 3)(h:cZ (s.extract 4 16)=(3,ByteArray.empty)):aZ m most s=(3,ByteArray.empty,ByteArray.empty,0):=by
 have:=k.q2 (by omega);rw[fq,zf (by omega),zf (by simpa using k.q1 (by omega)),zf (by omega),zg (by rw[h];simp)]
theorem cH.no4 {b:Nat}(k:cH m most s nm b 4)(h:¬20<=s.size):aZ m most s=(2,ByteArray.empty,ByteArray.empty,0):=by
 have:=k.q2 (by omega);rw[fq,zf (by omega),zf (by simpa using k.q1 (by omega)),zf (by omega),zf (by rw[k.q3 (by omega)];simp),zg (by omega)]
theorem cH.no5 {b:Nat}(k:cH m most s nm b 5)(h:¬(dg (s.extract 16 20).data.toList:Int)<=most):aZ m most s=(5,ByteArray.empty,ByteArray.empty,0):=by
 have:=k.q4 (by omega);rw[fq,zf (by omega),zf (by simpa using k.q1 (by omega)),zf (by omega),zf (by rw[k.q3 (by omega)];simp),zf (by omega),zg (by omega)]
theorem cH.no7 {b:Nat}(k:cH m most s nm b 6)(h:¬24+b<=s.size):aZ m most s=(2,ByteArray.empty,ByteArray.empty,0):=by
 have:=k.q4 (by omega);obtain⟨e,c⟩:=k.q5 (by omega);rw[e]at c h;rw[fq,zf (by omega),zf (by simpa using k.q1 (by omega)),zf (by omega),zf (by rw[k.q3 (by omega)];simp),zf (by omega),zf (by omega),zg (by omega)]
theorem cH.aiV {b:Nat}(k:cH m most s nm b 7)(h:¬24+b<=s.size):aZ m most s=(2,ByteArray.empty,ByteArray.empty,0):=
 cH.no7 ⟨k.q0∘fun _=>by omega,k.q1∘fun _=>by omega,k.q2∘fun _=>by omega,k.q3∘fun _=>by omega,k.q4∘fun _=>by omega,k.q5∘fun _=>by omega,by omega,by omega,by omega⟩ h
theorem cH.no8 {b:Nat}(k:cH m most s nm b 8)(h:¬eU (s.extract 24 (24+b))=s.extract 20 24):aZ m most s=(10,ByteArray.empty,ByteArray.empty,0):=by
 have:=k.q4 (by omega);have c:=k.q7 (by omega);obtain⟨e,d⟩:=k.q5 (by omega);rw[e]at d h c;rw[fq,zf (by omega),zf (by simpa using k.q1 (by omega)),zf (by omega),zf (by rw[k.q3 (by omega)];simp),zf (by omega),zf (by omega),zf (by omega),zg h]
theorem cH.yes {b:Nat}(k:cH m most s nm b 9):aZ m most s=(0,nm,s.extract 24 (24+b),24+b):=by
 have:=k.q4 (by omega);have d:=k.q7 (by omega);have c:=k.q8 (by omega);obtain⟨e,h⟩:=k.q5 (by omega);rw[e]at h d c⊢;rw[fq,zf (by omega),zf (by simpa using k.q1 (by omega)),zf (by omega),zf (by rw[k.q3 (by omega)];simp),zf (by omega),zf (by omega),zf (by omega),zf (by simpa using c),k.q3 (by omega)]
theorem cH.st0 {b:Nat}(h:cH m most s nm b 0)(c:4<=s.size):cH m most s nm b 1:=⟨fun _=>c,by omega,by omega,by omega,by omega,by omega,by omega,by omega,by omega⟩
theorem cH.fx {b:Nat}(h:cH m most s nm b 1)(c:s.extract 0 4=rV m):cH m most s nm b 2:=⟨fun _=>h.q0 (by omega),fun _=>c,by omega,by omega,by omega,by omega,by omega,by omega,by omega⟩
theorem cH.Uv {b:Nat}(h:cH m most s nm b 2)(c:16<=s.size):cH m most s nm b 3:=⟨fun _=>h.q0 (by omega),fun _=>h.q1 (by omega),fun _=>c,by omega,by omega,by omega,by omega,by omega,by omega⟩
theorem cH.st3 {c:ByteArray}{b:Nat}(h:cH m most s nm b 3)(d:cZ (s.extract 4 16)=(0,c)):cH m most s c b 4:=⟨fun _=>h.q0 (by omega),fun _=>h.q1 (by omega),fun _=>h.q2 (by omega),fun _=>d,by omega,by omega,by omega,by omega,by omega⟩
theorem cH.st4 {b:Nat}(h:cH m most s nm b 4)(c:20<=s.size):cH m most s nm b 5:=⟨fun _=>h.q0 (by omega),fun _=>h.q1 (by omega),fun _=>h.q2 (by omega),fun _=>h.q3 (by omega),fun _=>c,by omega,by omega,by omega,by omega⟩
theorem cH.st5 {c:Nat}(h:cH m most s nm c 5)(b:(dg (s.extract 16 20).data.toList:Int)<=most):cH m most s nm (dg (s.extract 16 20).data.toList) 6:=⟨fun _=>h.q0 (by omega),fun _=>h.q1 (by omega),fun _=>h.q2 (by omega),fun _=>h.q3 (by omega),fun _=>h.q4 (by omega),fun _=>⟨rfl,b⟩,by omega,by omega,by omega⟩
theorem cH.st6 {b:Nat}(h:cH m most s nm b 6)(c:24<=s.size):cH m most s nm b 7:=⟨fun _=>h.q0 (by omega),fun _=>h.q1 (by omega),fun _=>h.q2 (by omega),fun _=>h.q3 (by omega),fun _=>h.q4 (by omega),fun _=>h.q5 (by omega),fun _=>c,by omega,by omega⟩
theorem cH.st7 {b:Nat}(h:cH m most s nm b 7)(c:24+b<=s.size):cH m most s nm b 8:=⟨fun _=>h.q0 (by omega),fun _=>h.q1 (by omega),fun _=>h.q2 (by omega),fun _=>h.q3 (by omega),fun _=>h.q4 (by omega),fun _=>h.q5 (by omega),fun _=>h.q6 (by omega),fun _=>c,by omega⟩
theorem cH.st8 {b:Nat}(h:cH m most s nm b 8)(c:eU (s.extract 24 (24+b))=s.extract 20 24):cH m most s nm b 9:=⟨fun _=>h.q0 (by omega),fun _=>h.q1 (by omega),fun _=>h.q2 (by omega),fun _=>h.q3 (by omega),fun _=>h.q4 (by omega),fun _=>h.q5 (by omega),fun _=>h.q6 (by omega),fun _=>h.q7 (by omega),fun _=>c⟩
theorem bW (b m d k h c e j l:Value)(w:World)(i:Nat)(hi:i<9):
 (Instr.index 188 (.agg #[b,m,d,k,h,c,e,j,l]) i).run prog w= .ok (#[b,m,d,k,h,c,e,j,l].getD i undef) w:=by
 have hd:=underlying188;have n:i=0\/i=1\/i=2\/i=3\/i=4\/i=5\/i=6\/i=7\/i=8:=by omega
 rcases n with rfl|rfl|rfl|rfl|rfl|rfl|rfl|rfl|rfl;all_goals
  simp[Instr.index,asIntOf,xX hd,go_sem]
theorem aiW (b l d j h c e i k:Value)(w:World):(Instr.index 188 (.agg #[b,l,d,j,h,c,e,i,k]) (0:Int)).run prog w= .ok b w:=bW b l d j h c e i k w 0 (by omega)
theorem aiX (c b e k i d h j l:Value)(w:World):(Instr.index 188 (.agg #[c,b,e,k,i,d,h,j,l]) (1:Int)).run prog w= .ok b w:=bW c b e k i d h j l w 1 (by omega)
theorem aiY (c l b j h d e i k:Value)(w:World):(Instr.index 188 (.agg #[c,l,b,j,h,d,e,i,k]) (2:Int)).run prog w= .ok b w:=bW c l b j h d e i k w 2 (by omega)
theorem aiZ (c l e b i d h j k:Value)(w:World):(Instr.index 188 (.agg #[c,l,e,b,i,d,h,j,k]) (3:Int)).run prog w= .ok b w:=bW c l e b i d h j k w 3 (by omega)
theorem ai0 (c l e j b d h i k:Value)(w:World):(Instr.index 188 (.agg #[c,l,e,j,b,d,h,i,k]) (4:Int)).run prog w= .ok b w:=bW c l e j b d h i k w 4 (by omega)
theorem ai1 (c l d j h b e i k:Value)(w:World):(Instr.index 188 (.agg #[c,l,d,j,h,b,e,i,k]) (5:Int)).run prog w= .ok b w:=bW c l d j h b e i k w 5 (by omega)
theorem ai2 (c l e j h d b i k:Value)(w:World):(Instr.index 188 (.agg #[c,l,e,j,h,d,b,i,k]) (6:Int)).run prog w= .ok b w:=bW c l e j h d b i k w 6 (by omega)
theorem ai3 (c l e j i d h b k:Value)(w:World):(Instr.index 188 (.agg #[c,l,e,j,i,d,h,b,k]) (7:Int)).run prog w= .ok b w:=bW c l e j i d h b k w 7 (by omega)
theorem ai4 (c l e k i d h j b:Value)(w:World):(Instr.index 188 (.agg #[c,l,e,k,i,d,h,j,b]) (8:Int)).run prog w= .ok b w:=bW c l e k i d h j b w 8 (by omega)
attribute [local go_sem] aiW aiX aiY aiZ ai0 ai1 ai2 ai3 ai4
theorem a8 {g:Nat}{t:TypeId}{b:Array Value}(h:af w g t b)(o:Obj):af (w.alloc o) g t b:=h.alloc o
theorem nX (w:World)(t:TypeId)(b:Array Value)(n:Nat)(h:w.heap.size=n):af (w.alloc (.cells b t)) n t b:=by subst h;exact af.new w t b
theorem MO.made (w:World)(m:Nat)(most:Int)(s:ByteArray)(o:Obj):MO ((((((((((((w.alloc (.cells #[.int .u32 m] 22)).alloc (.cells #[most] 3)).alloc (.cells #[s] 9)).alloc (.cells #[.int .u64 0,eS,eS] 103)).alloc (.cells #[eS] 9)).alloc (.cells #[(0:Int)] 3)).alloc (.cells #[XP (w.heap.size+1+1)] 184)).alloc (.cells #[(4:Nat)] 3)).alloc (.cells #[(16:Nat)] 3)).alloc (.cells #[(20:Nat)] 3)).alloc (.cells #[(24:Nat)] 3)).alloc o) w.heap.size m most s ⟨#[]⟩ 0:=by
 constructor
 ·exact(a8 (a8 (a8 (a8 (a8 (a8 (a8 (a8 (a8 (a8 (a8 (nX _ _ _ _ (by simp)) _) _) _) _) _) _) _) _) _) _) _)
 ·exact(a8 (a8 (a8 (a8 (a8 (a8 (a8 (a8 (a8 (a8 (nX _ _ _ _ (by simp)) _) _) _) _) _) _) _) _) _) _)
 ·exact(a8 (a8 (a8 (a8 (a8 (a8 (a8 (a8 (a8 (nX _ _ _ _ (by simp)) _) _) _) _) _) _) _) _) _)
 ·exact(a8 (a8 (a8 (a8 (a8 (a8 (a8 (a8 (nX _ _ _ _ (by simp)) _) _) _) _) _) _) _) _)
 ·exact(a8 (a8 (a8 (a8 (a8 (a8 (a8 (nX _ _ _ _ (by simp)) _) _) _) _) _) _) _)
 ·exact(a8 (a8 (a8 (a8 (a8 (a8 (nX _ _ _ _ (by simp)) _) _) _) _) _) _)
 ·exact(a8 (a8 (a8 (a8 (a8 (nX _ _ _ _ (by simp)) _) _) _) _) _)
 ·exact(a8 (a8 (a8 (a8 (nX _ _ _ _ (by simp)) _) _) _) _)
 ·exact(a8 (a8 (a8 (nX _ _ _ _ (by simp)) _) _) _)
 ·exact(a8 (a8 (nX _ _ _ _ (by simp)) _) _)
 exact(a8 (nX _ _ _ _ (by simp)) _)
theorem KO (m:Nat)(most:Int)(s:ByteArray)(w:World)(C:m<4294967296)(O:s.size<=1099511627776)(aa: -9223372036854775808<=most/\most<=9223372036854775807)(U:(s.size:Int)<=90000\/most<=90000):
 Calls prog 91 #[.int .u32 m,most,s] w fun e w'=>e= .returned (aeN (aZ m most s))/\(w,w'):=by
 have A:=za (fun b k w=>Pm b k w);go_enter func91,ntmps91
 go_wp2_with fail
 refine(A.out _ 4 _).mono ?_;rintro e o ⟨rfl,rfl⟩;go_wp2_with fail
 refine(A.out _ 16 _).mono ?_;rintro e o ⟨rfl,rfl⟩;go_wp2_with fail
 refine(A.out _ 20 _).mono ?_;rintro e o ⟨rfl,rfl⟩;go_wp2_with fail
 refine(A.out _ 24 _).mono ?_;rintro e o ⟨rfl,rfl⟩;go_wp2_with fail
 generalize D:World.alloc _ (Obj.cells _ 188)=J;have R:Hid (MO J w.heap.size m most s ⟨#[]⟩ 0):=za (by
  rw[<-D];exact MO.made w m most s _)
 have L:Hid (w,J):=za (by rw[<-D];exact bQ);clear D;go_loopw [34] (fun i wr=>∃(k:Nat) (nm:ByteArray) (y:Nat),k<=9/\i= .int .i64 k/\MO wr w.heap.size m most s nm y/\cH m most s nm y k/\(w,wr)) (fun i _=>9-(intOf i).toNat)
 case atStart=>exact⟨0,_,_,by omega,rfl,R.out,cH.zero,L.out⟩
 case round=>
  obtain⟨k,nm,y,H,rfl,hS,E,I⟩:=hrel;have c:=za hS;have l:=za E;have j:=za I;clear hS E I;have M:k=0\/k=1\/k=2\/k=3\/k=4\/k=5\/k=6\/k=7\/k=8\/k=9:=by omega
  rcases M with rfl|rfl|rfl|rfl|rfl|rfl|rfl|rfl|rfl|rfl
  ·have d:=za (fun(_:Unit)=>vB s _ _ 4 wr c.out.tx c.out.k1 (by omega) (by omega));by_cases h:4<=s.size
   ·simp only[zg h]at d;go_wp2_with fail
    refine(d.out ()).mono ?_;rintro e o ⟨rfl,rfl⟩;go_wp2;go_roundw
    case rel=>exact⟨1,_,_,by omega,rfl,c.out,l.out.st0 h,j.out⟩
    case measure=>simp[intOf]
   simp only[zf h]at d;have r:=za (cH.no0 (m:=m) (most:=most) h);go_wp2_with fail
   refine(d.out ()).mono ?_;rintro e o ⟨rfl,rfl⟩;obtain⟨g0,g1,g2,f0,f1,f2⟩:=bq c.out.fr;go_wp2;have q:=za (pf c.out.fr (.int .u64 0) eS eS);obtain⟨p,x,u,_,_,_⟩:=bq q.out;refine zj (v:= .tuple #[.agg #[.int .u64 0,.string ⟨#[]⟩,.string ⟨#[]⟩],.int .i64 0,.int .i64 2]) (by simp[results,xe,go_sem,p,x,u]) rfl ?_;rw[r.out];exact⟨rfl,kK j.out (by omega) _ _ _⟩
  ·have d:=za (fun(_:Unit)=>Wf s _ _ _ m wr c.out.tx c.out.nu c.out.mg C (by omega) (l.out.q0 (by omega)));by_cases h:dg (s.extract 0 4).data.toList=m
   ·simp only[zg h]at d;have F:s.extract 0 4=rV m:=(Q7 _ _ (ar _ _ _ (l.out.q0 (by omega))) C).2 h;have B:=za F;clear h F;go_wp2_with fail
    refine(d.out ()).mono ?_;rintro e o ⟨rfl,n,rfl⟩;replace c:=za (c.out.MP (w':=wr.drewN n) (by intro k H;simp));replace j:Hid (w,wr.drewN n):=za (Below.bI j.out n);go_wp2;go_roundw
    case rel=>exact⟨2,_,_,by omega,rfl,c.out,l.out.fx B.out,j.out⟩
    case measure=>simp[intOf]
   simp only[zf h]at d;have r:=za (l.out.no1 C h);clear h;go_wp2_with fail
   refine(d.out ()).mono ?_;rintro e o ⟨rfl,n,rfl⟩;replace c:=za (c.out.MP (w':=wr.drewN n) (by intro k H;simp));replace j:Hid (w,wr.drewN n):=za (Below.bI j.out n);obtain⟨g0,g1,g2,f0,f1,f2⟩:=bq c.out.fr;go_wp2;have q:=za (pf c.out.fr (.int .u64 0) eS eS);obtain⟨p,x,u,_,_,_⟩:=bq q.out;refine zj (v:= .tuple #[.agg #[.int .u64 0,.string ⟨#[]⟩,.string ⟨#[]⟩],.int .i64 0,.int .i64 9]) (by simp[results,xe,go_sem,p,x,u]) rfl ?_;rw[r.out];exact⟨rfl,kK j.out (by omega) _ _ _⟩
  ·have d:=za (fun(_:Unit)=>vB s _ _ 16 wr c.out.tx c.out.k2 (by omega) (by omega));by_cases h:16<=s.size
   ·simp only[zg h]at d;go_wp2_with fail
    refine(d.out ()).mono ?_;rintro e o ⟨rfl,rfl⟩;go_wp2;go_roundw
    case rel=>exact⟨3,_,_,by omega,rfl,c.out,l.out.Uv h,j.out⟩
    case measure=>simp[intOf]
   simp only[zf h]at d;have r:=za (l.out.no2 h);go_wp2_with fail
   refine(d.out ()).mono ?_;rintro e o ⟨rfl,rfl⟩;obtain⟨g0,g1,g2,f0,f1,f2⟩:=bq c.out.fr;go_wp2;have q:=za (pf c.out.fr (.int .u64 0) eS eS);obtain⟨p,x,u,_,_,_⟩:=bq q.out;refine zj (v:= .tuple #[.agg #[.int .u64 0,.string ⟨#[]⟩,.string ⟨#[]⟩],.int .i64 0,.int .i64 2]) (by simp[results,xe,go_sem,p,x,u]) rfl ?_;rw[r.out];exact⟨rfl,kK j.out (by omega) _ _ _⟩
  ·have d:=za (fun(_:Unit)=>Wg s _ _ _ wr c.out.tx c.out.na (by omega) (by omega) (l.out.q2 (by omega)));rcases tv (s.extract 4 16)with hg|⟨t,hg⟩
   ·have r:=za (l.out.no3 hg);simp only[hg]at d;clear hg;replace c:=za (c.out.name ByteArray.empty);replace j:Hid (w,wr.setCell (w.heap.size+1+1+1+1,0) ByteArray.empty):=za (j.out.setCell (by show w.heap.size<=w.heap.size+1+1+1+1;omega) _);go_wp2_with fail
    refine(d.out ()).mono ?_;rintro e o ⟨rfl,rfl⟩;obtain⟨g0,g1,g2,f0,f1,f2⟩:=bq c.out.fr;go_wp2;have q:=za (pf c.out.fr (.int .u64 0) eS eS);obtain⟨p,x,u,_,_,_⟩:=bq q.out;refine zj (v:= .tuple #[.agg #[.int .u64 0,.string ⟨#[]⟩,.string ⟨#[]⟩],.int .i64 0,.int .i64 3]) (by simp[results,xe,go_sem,p,x,u]) rfl ?_;rw[r.out];exact⟨rfl,kK j.out (by omega) _ _ _⟩
   have K:=za hg;simp only[hg]at d;clear hg;replace c:=za (c.out.name t);replace j:Hid (w,wr.setCell (w.heap.size+1+1+1+1,0) t):=za (j.out.setCell (by show w.heap.size<=w.heap.size+1+1+1+1;omega) _);go_wp2_with fail
   refine(d.out ()).mono ?_;rintro e o ⟨rfl,rfl⟩;go_wp2;go_roundw
   case rel=>exact⟨4,_,_,by omega,rfl,c.out,l.out.st3 K.out,j.out⟩
   case measure=>simp[intOf]
  ·have d:=za (fun(_:Unit)=>vB s _ _ 20 wr c.out.tx c.out.k3 (by omega) (by omega));by_cases h:20<=s.size
   ·simp only[zg h]at d;go_wp2_with fail
    refine(d.out ()).mono ?_;rintro e o ⟨rfl,rfl⟩;go_wp2;go_roundw
    case rel=>exact⟨5,_,_,by omega,rfl,c.out,l.out.st4 h,j.out⟩
    case measure=>simp[intOf]
   simp only[zf h]at d;have r:=za (l.out.no4 h);go_wp2_with fail
   refine(d.out ()).mono ?_;rintro e o ⟨rfl,rfl⟩;obtain⟨g0,g1,g2,f0,f1,f2⟩:=bq c.out.fr;go_wp2;have q:=za (pf c.out.fr (.int .u64 0) eS eS);obtain⟨p,x,u,_,_,_⟩:=bq q.out;refine zj (v:= .tuple #[.agg #[.int .u64 0,.string ⟨#[]⟩,.string ⟨#[]⟩],.int .i64 0,.int .i64 2]) (by simp[results,xe,go_sem,p,x,u]) rfl ?_;rw[r.out];exact⟨rfl,kK j.out (by omega) _ _ _⟩
  ·have d:=za (fun(_:Unit)=>abk s _ _ _ _ _ most wr c.out.tx c.out.nu c.out.le c.out.mo (by omega) (by omega) (l.out.q4 (by omega)));replace c:=za (c.out.len (dg (s.extract 16 20).data.toList));replace j:Hid (w,wr.setCell (w.heap.size+1+1+1+1+1,0) (.int .i64 (dg (s.extract 16 20).data.toList))):=za (j.out.setCell (by show w.heap.size<=w.heap.size+1+1+1+1+1;omega) _);by_cases h:(dg (s.extract 16 20).data.toList:Int)<=most
   ·simp only[zg h]at d;have B:=za (l.out.st5 h);clear h;generalize dg (s.extract 16 20).data.toList=N at*;go_wp2_with fail
    refine(d.out ()).mono ?_;rintro e o ⟨rfl,rfl⟩;go_wp2;go_roundw
    case rel=>exact⟨6,_,_,by omega,rfl,c.out,B.out,j.out⟩
    case measure=>simp[intOf]
   simp only[zf h]at d;have r:=za (l.out.no5 h);clear h;generalize dg (s.extract 16 20).data.toList=N at*;go_wp2_with fail
   refine(d.out ()).mono ?_;rintro e o ⟨rfl,rfl⟩;obtain⟨g0,g1,g2,f0,f1,f2⟩:=bq c.out.fr;go_wp2;have q:=za (pf c.out.fr (.int .u64 0) eS eS);obtain⟨p,x,u,_,_,_⟩:=bq q.out;refine zj (v:= .tuple #[.agg #[.int .u64 0,.string ⟨#[]⟩,.string ⟨#[]⟩],.int .i64 0,.int .i64 5]) (by simp[results,xe,go_sem,p,x,u]) rfl ?_;rw[r.out];exact⟨rfl,kK j.out (by omega) _ _ _⟩
  ·have d:=za (fun(_:Unit)=>vB s _ _ 24 wr c.out.tx c.out.k4 (by omega) (by omega));by_cases h:24<=s.size
   ·simp only[zg h]at d;go_wp2_with fail
    refine(d.out ()).mono ?_;rintro e o ⟨rfl,rfl⟩;go_wp2;go_roundw
    case rel=>exact⟨7,_,_,by omega,rfl,c.out,l.out.st6 h,j.out⟩
    case measure=>simp[intOf]
   simp only[zf h]at d;have r:=za (l.out.no7 (by omega));go_wp2_with fail
   refine(d.out ()).mono ?_;rintro e o ⟨rfl,rfl⟩;obtain⟨g0,g1,g2,f0,f1,f2⟩:=bq c.out.fr;go_wp2;have q:=za (pf c.out.fr (.int .u64 0) eS eS);obtain⟨p,x,u,_,_,_⟩:=bq q.out;refine zj (v:= .tuple #[.agg #[.int .u64 0,.string ⟨#[]⟩,.string ⟨#[]⟩],.int .i64 0,.int .i64 2]) (by simp[results,xe,go_sem,p,x,u]) rfl ?_;rw[r.out];exact⟨rfl,kK j.out (by omega) _ _ _⟩
  ·have G:y<4294967296:=by
    rw[(l.out.q5 (by omega)).1];exact vr _ (ar _ _ _ (l.out.q4 (by omega)))
   have d:=za (fun(_:Unit)=>Wh s _ _ y wr c.out.tx c.out.le (by omega) G);clear G;by_cases h:24+y<=s.size
   ·simp only[zg h]at d;go_wp2_with fail
    refine(d.out ()).mono ?_;rintro e o ⟨rfl,rfl⟩;go_wp2;go_roundw
    case rel=>exact⟨8,_,_,by omega,rfl,c.out,l.out.st7 h,j.out⟩
    case measure=>simp[intOf]
   simp only[zf h]at d;have r:=za (cH.aiV l.out h);go_wp2_with fail
   refine(d.out ()).mono ?_;rintro e o ⟨rfl,rfl⟩;obtain⟨g0,g1,g2,f0,f1,f2⟩:=bq c.out.fr;go_wp2;have q:=za (pf c.out.fr (.int .u64 0) eS eS);obtain⟨p,x,u,_,_,_⟩:=bq q.out;refine zj (v:= .tuple #[.agg #[.int .u64 0,.string ⟨#[]⟩,.string ⟨#[]⟩],.int .i64 0,.int .i64 2]) (by simp[results,xe,go_sem,p,x,u]) rfl ?_;rw[r.out];exact⟨rfl,kK j.out (by omega) _ _ _⟩
  ·have d:=za (fun(_:Unit)=>abl s _ _ y wr c.out.tx c.out.le O (l.out.q7 (by omega)) (by have:=(l.out.q5 (by omega)).2;have:=l.out.q7 (by omega);omega));by_cases h:eU (s.extract 24 (24+y))=s.extract 20 24
   ·simp only[zg h]at d;have B:=za h;clear h;go_wp2_with fail
    refine(d.out ()).mono ?_;rintro e o ⟨rfl,z⟩;replace c:=za (c.out.MP (w':=o) z.block);replace j:Hid (w,o):=za (j.out.trans (z.mono j.out.size));clear z;go_wp2;go_roundw
    case rel=>exact⟨9,_,_,by omega,rfl,c.out,l.out.st8 B.out,j.out⟩
    case measure=>simp[intOf]
   simp only[zf h]at d;have r:=za (l.out.no8 h);clear h;go_wp2_with fail
   refine(d.out ()).mono ?_;rintro e o ⟨rfl,z⟩;replace c:=za (c.out.MP (w':=o) z.block);replace j:Hid (w,o):=za (j.out.trans (z.mono j.out.size));clear z;obtain⟨g0,g1,g2,f0,f1,f2⟩:=bq c.out.fr;go_wp2;have q:=za (pf c.out.fr (.int .u64 0) eS eS);obtain⟨p,x,u,_,_,_⟩:=bq q.out;refine zj (v:= .tuple #[.agg #[.int .u64 0,.string ⟨#[]⟩,.string ⟨#[]⟩],.int .i64 0,.int .i64 10]) (by simp[results,xe,go_sem,p,x,u]) rfl ?_;rw[r.out];exact⟨rfl,kK j.out (by omega) _ _ _⟩
  have r:=za l.out.yes;have Z:=l.out.q7 (by omega);have ES:(24:Int)+y<=s.size:=by omega
  have Y:(0:Int)<=24+y:=by omega
  have X:(24:Int)<=s.size:=by omega
  have p4:IntKind.i64.wrap (24+(y:Int))=24+y:=zY _ (by omega);have W:(24+(y:Int)).toNat=24+y:=by omega
  have n1:wr.cell? (w.heap.size+1+1+1+1,0)=some (.string nm):=zW c.out.na;have n2:wr.cell? (w.heap.size+1+1,0)=some (.string s):=zW c.out.tx;have S:wr.cell? (w.heap.size+1+1+1+1+1,0)=some (.int .i64 y):=zW c.out.le;obtain⟨g0,g1,g2,f0,f1,f2⟩:=bq c.out.fr;clear A;go_wp2;go_region
  have q:=za (pf c.out.fr (.int .u64 0) nm (.string (s.extract 24 (24+y))));obtain⟨p,x,u,_,_,_⟩:=bq q.out;clear g0 g1 g2 f0 f1 f2 n1 n2 S;go_wp2;refine zj (v:= .tuple #[.agg #[.int .u64 0,nm,.string (s.extract 24 (24+y))],(24+y:Int),(0:Int)]) (by simp[results,xe,go_sem,p,x,u]) rfl ?_;rw[r.out];exact⟨rfl,(kK j.out (by omega) _ _ _).drew⟩
