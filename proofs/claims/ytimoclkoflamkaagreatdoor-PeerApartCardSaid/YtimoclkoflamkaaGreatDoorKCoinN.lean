/- coin.Next. -/
import Derived.Test.YtimoclkoflamkaaGreatDoorKA36
set_option linter.all false
set_option maxRecDepth 100000
set_option maxHeartbeats 4000000
open Go.Proofs.Tryz
namespace Go.Proofs.YtimoclkoflamkaaGreatDoor
open Go.RowKit
variable {m d:Nat}{most:Int}{s nm:ByteArray}{w:World}
def xg:=@results91
structure cC (m:Nat)(most:Int)(s nm:ByteArray)(ln k:Nat):Prop where
 q0:1<=k->4<=s.size
 q1:2<=k->s.extract 0 4=ra m
 q2:3<=k->16<=s.size
 q3:4<=k->cX (s.extract 4 16)=(0,nm)
 q4:5<=k->20<=s.size
 q5:6<=k->ln=da (s.extract 16 20).data.toList/\(ln:Int)<=most
 q6:7<=k->24<=s.size
 q7:8<=k->24+ln<=s.size
 q8:9<=k->eP (s.extract 24 (24+ln))=s.extract 20 24
structure K9 (w:World)(b m:Nat)(most:Int)(s nm:ByteArray)(ln:Nat):Prop where
 mg:ag w b 22 #[.int .u32 m]
 mo:ag w (b+1) 3 #[most]
 tx:ag w (b+1+1) 9 #[s]
 fr:ag w (b+1+1+1) 103 #[.int .u64 0,eS,eS]
 na:ag w (b+1+1+1+1) 9 #[nm]
 le:ag w (b+1+1+1+1+1) 3 #[ln]
 nu:ag w (b+1+1+1+1+1+1) 184 #[VD (b+1+1)]
 k1:ag w (b+1+1+1+1+1+1+1) 3 #[(4:Nat)]
 k2:ag w (b+1+1+1+1+1+1+1+1) 3 #[(16:Nat)]
 k3:ag w (b+1+1+1+1+1+1+1+1+1) 3 #[(20:Nat)]
 k4:ag w (b+1+1+1+1+1+1+1+1+1+1) 3 #[(24:Nat)]
theorem K9.La {w':World}{b:Nat}(h:K9 w b m most s nm d)(c:∀k,k<w.heap.size->w'.heap[k]?=w.heap[k]?):K9 w' b m most s nm d:=
 ⟨(c _ h.mg.lt).trans h.mg,(c _ h.mo.lt).trans h.mo,(c _ h.tx.lt).trans h.tx,(c _ h.fr.lt).trans h.fr,(c _ h.na.lt).trans h.na,(c _ h.le.lt).trans h.le,(c _ h.nu.lt).trans h.nu,(c _ h.k1.lt).trans h.k1,(c _ h.k2.lt).trans h.k2,(c _ h.k3.lt).trans h.k3,(c _ h.k4.lt).trans h.k4⟩
theorem K9.name {b:Nat}{c:Nat}(h:K9 w b m most s nm c)(d:ByteArray):K9 (w.setCell (b+1+1+1+1,0) d) b m most s d c:=
 ⟨h.mg.dE (by intro e;dsimp only at e;omega) _,h.mo.dE (by intro e;dsimp only at e;omega) _,h.tx.dE (by intro e;dsimp only at e;omega) _,h.fr.dE (by intro e;dsimp only at e;omega) _,one_setCell h.na,h.le.dE (by intro e;dsimp only at e;omega) _,h.nu.dE (by intro e;dsimp only at e;omega) _,h.k1.dE (by intro e;dsimp only at e;omega) _,h.k2.dE (by intro e;dsimp only at e;omega) _,h.k3.dE (by intro e;dsimp only at e;omega) _,h.k4.dE (by intro e;dsimp only at e;omega) _⟩
theorem K9.len {b:Nat}(h:K9 w b m most s nm d)(c:Nat):K9 (w.setCell (b+1+1+1+1+1,0) c) b m most s nm c:=
 ⟨h.mg.dE (by intro e;dsimp only at e;omega) _,h.mo.dE (by intro e;dsimp only at e;omega) _,h.tx.dE (by intro e;dsimp only at e;omega) _,h.fr.dE (by intro e;dsimp only at e;omega) _,h.na.dE (by intro e;dsimp only at e;omega) _,one_setCell h.le,h.nu.dE (by intro e;dsimp only at e;omega) _,h.k1.dE (by intro e;dsimp only at e;omega) _,h.k2.dE (by intro e;dsimp only at e;omega) _,h.k3.dE (by intro e;dsimp only at e;omega) _,h.k4.dE (by intro e;dsimp only at e;omega) _⟩
theorem cC.zero {b:Nat}:cC m most s nm b 0:=⟨by omega,by omega,by omega,by omega,by omega,by omega,by omega,by omega,by omega⟩
theorem cC.no0 (h:¬4<=s.size):aX m most s=(2,ByteArray.empty,ByteArray.empty,0):=by rw[fk,zj (by omega)]
theorem cC.no1 {c:Nat}(k:cC m most s nm c 1)(b:m<4294967296)(h:da (s.extract 0 4).data.toList≠m):aX m most s=(9,ByteArray.empty,ByteArray.empty,0):=by
 have:=k.q0 (by omega);rw[fk,zi (by omega),zj];intro e;exact h ((O2 _ _ (ar _ _ _ (by omega)) b).1 e)
theorem cC.no2 {b:Nat}(k:cC m most s nm b 2)(h:¬16<=s.size):aX m most s=(2,ByteArray.empty,ByteArray.empty,0):=by
 have:=k.q0 (by omega);rw[fk,zi (by omega),zi (by simpa using k.q1 (by omega)),zj (by omega)]
theorem cC.no3 {b:Nat}(k:cC m most s nm b 3)(h:cX (s.extract 4 16)=(3,ByteArray.empty)):aX m most s=(3,ByteArray.empty,ByteArray.empty,0):=by
 have:=k.q2 (by omega);rw[fk,zi (by omega),zi (by simpa using k.q1 (by omega)),zi (by omega),zj (by rw[h];simp)]
theorem cC.no4 {b:Nat}(k:cC m most s nm b 4)(h:¬20<=s.size):aX m most s=(2,ByteArray.empty,ByteArray.empty,0):=by
 have:=k.q2 (by omega);rw[fk,zi (by omega),zi (by simpa using k.q1 (by omega)),zi (by omega),zi (by rw[k.q3 (by omega)];simp),zj (by omega)]
theorem cC.no5 {b:Nat}(k:cC m most s nm b 5)(h:¬(da (s.extract 16 20).data.toList:Int)<=most):aX m most s=(5,ByteArray.empty,ByteArray.empty,0):=by
 have:=k.q4 (by omega);rw[fk,zi (by omega),zi (by simpa using k.q1 (by omega)),zi (by omega),zi (by rw[k.q3 (by omega)];simp),zi (by omega),zj (by omega)]
theorem cC.no7 {b:Nat}(k:cC m most s nm b 6)(h:¬24+b<=s.size):aX m most s=(2,ByteArray.empty,ByteArray.empty,0):=by
 have:=k.q4 (by omega);obtain⟨e,c⟩:=k.q5 (by omega);rw[e]at c h;rw[fk,zi (by omega),zi (by simpa using k.q1 (by omega)),zi (by omega),zi (by rw[k.q3 (by omega)];simp),zi (by omega),zi (by omega),zj (by omega)]
theorem cC.agH {b:Nat}(k:cC m most s nm b 7)(h:¬24+b<=s.size):aX m most s=(2,ByteArray.empty,ByteArray.empty,0):=
 cC.no7 ⟨k.q0∘fun _=>by omega,k.q1∘fun _=>by omega,k.q2∘fun _=>by omega,k.q3∘fun _=>by omega,k.q4∘fun _=>by omega,k.q5∘fun _=>by omega,by omega,by omega,by omega⟩ h
theorem cC.no8 {b:Nat}(k:cC m most s nm b 8)(h:¬eP (s.extract 24 (24+b))=s.extract 20 24):aX m most s=(10,ByteArray.empty,ByteArray.empty,0):=by
 have:=k.q4 (by omega);have c:=k.q7 (by omega);obtain⟨e,d⟩:=k.q5 (by omega);rw[e]at d h c;rw[fk,zi (by omega),zi (by simpa using k.q1 (by omega)),zi (by omega),zi (by rw[k.q3 (by omega)];simp),zi (by omega),zi (by omega),zi (by omega),zj h]
theorem cC.yes {b:Nat}(k:cC m most s nm b 9):aX m most s=(0,nm,s.extract 24 (24+b),24+b):=by
 have:=k.q4 (by omega);have d:=k.q7 (by omega);have c:=k.q8 (by omega);obtain⟨e,h⟩:=k.q5 (by omega);rw[e]at h d c⊢;rw[fk,zi (by omega),zi (by simpa using k.q1 (by omega)),zi (by omega),zi (by rw[k.q3 (by omega)];simp),zi (by omega),zi (by omega),zi (by omega),zi (by simpa using c),k.q3 (by omega)]
theorem cC.st0 {b:Nat}(h:cC m most s nm b 0)(c:4<=s.size):cC m most s nm b 1:=⟨fun _=>c,by omega,by omega,by omega,by omega,by omega,by omega,by omega,by omega⟩
theorem cC.gw {b:Nat}(h:cC m most s nm b 1)(c:s.extract 0 4=ra m):cC m most s nm b 2:=⟨fun _=>h.q0 (by omega),fun _=>c,by omega,by omega,by omega,by omega,by omega,by omega,by omega⟩
theorem cC.Sv {b:Nat}(h:cC m most s nm b 2)(c:16<=s.size):cC m most s nm b 3:=⟨fun _=>h.q0 (by omega),fun _=>h.q1 (by omega),fun _=>c,by omega,by omega,by omega,by omega,by omega,by omega⟩
theorem cC.st3 {c:ByteArray}{b:Nat}(h:cC m most s nm b 3)(d:cX (s.extract 4 16)=(0,c)):cC m most s c b 4:=⟨fun _=>h.q0 (by omega),fun _=>h.q1 (by omega),fun _=>h.q2 (by omega),fun _=>d,by omega,by omega,by omega,by omega,by omega⟩
theorem cC.st4 {b:Nat}(h:cC m most s nm b 4)(c:20<=s.size):cC m most s nm b 5:=⟨fun _=>h.q0 (by omega),fun _=>h.q1 (by omega),fun _=>h.q2 (by omega),fun _=>h.q3 (by omega),fun _=>c,by omega,by omega,by omega,by omega⟩
theorem cC.st5 {b:Nat}(h:cC m most s nm b 5)(c:(da (s.extract 16 20).data.toList:Int)<=most):cC m most s nm (da (s.extract 16 20).data.toList) 6:=⟨fun _=>h.q0 (by omega),fun _=>h.q1 (by omega),fun _=>h.q2 (by omega),fun _=>h.q3 (by omega),fun _=>h.q4 (by omega),fun _=>⟨rfl,c⟩,by omega,by omega,by omega⟩
theorem cC.st6 {b:Nat}(h:cC m most s nm b 6)(c:24<=s.size):cC m most s nm b 7:=⟨fun _=>h.q0 (by omega),fun _=>h.q1 (by omega),fun _=>h.q2 (by omega),fun _=>h.q3 (by omega),fun _=>h.q4 (by omega),fun _=>h.q5 (by omega),fun _=>c,by omega,by omega⟩
theorem cC.st7 {b:Nat}(h:cC m most s nm b 7)(c:24+b<=s.size):cC m most s nm b 8:=⟨fun _=>h.q0 (by omega),fun _=>h.q1 (by omega),fun _=>h.q2 (by omega),fun _=>h.q3 (by omega),fun _=>h.q4 (by omega),fun _=>h.q5 (by omega),fun _=>h.q6 (by omega),fun _=>c,by omega⟩
theorem cC.st8 {b:Nat}(h:cC m most s nm b 8)(c:eP (s.extract 24 (24+b))=s.extract 20 24):cC m most s nm b 9:=⟨fun _=>h.q0 (by omega),fun _=>h.q1 (by omega),fun _=>h.q2 (by omega),fun _=>h.q3 (by omega),fun _=>h.q4 (by omega),fun _=>h.q5 (by omega),fun _=>h.q6 (by omega),fun _=>h.q7 (by omega),fun _=>c⟩
theorem bU (h m j c l k e b d:Value)(w:World)(i:Nat)(hi:i<9):
 (Instr.index 188 (.agg #[h,m,j,c,l,k,e,b,d]) i).run prog w= .ok (#[h,m,j,c,l,k,e,b,d].getD i undef) w:=by
 have hd:=underlying188;have n:i=0\/i=1\/i=2\/i=3\/i=4\/i=5\/i=6\/i=7\/i=8:=by omega
 rcases n with rfl|rfl|rfl|rfl|rfl|rfl|rfl|rfl|rfl;all_goals
  simp[Instr.index,asIntOf,xW hd,go_sem]
theorem agI (b l i d k j h c e:Value)(w:World):(Instr.index 188 (.agg #[b,l,i,d,k,j,h,c,e]) (0:Int)).run prog w= .ok b w:=bU b l i d k j h c e w 0 (by omega)
theorem agJ (i b j d l k h c e:Value)(w:World):(Instr.index 188 (.agg #[i,b,j,d,l,k,h,c,e]) (1:Int)).run prog w= .ok b w:=bU i b j d l k h c e w 1 (by omega)
theorem agK (i l b d k j h c e:Value)(w:World):(Instr.index 188 (.agg #[i,l,b,d,k,j,h,c,e]) (2:Int)).run prog w= .ok b w:=bU i l b d k j h c e w 2 (by omega)
theorem agL (h l i b k j e c d:Value)(w:World):(Instr.index 188 (.agg #[h,l,i,b,k,j,e,c,d]) (3:Int)).run prog w= .ok b w:=bU h l i b k j e c d w 3 (by omega)
theorem agM (i l j d b k h c e:Value)(w:World):(Instr.index 188 (.agg #[i,l,j,d,b,k,h,c,e]) (4:Int)).run prog w= .ok b w:=bU i l j d b k h c e w 4 (by omega)
theorem agN (i l j d k b h c e:Value)(w:World):(Instr.index 188 (.agg #[i,l,j,d,k,b,h,c,e]) (5:Int)).run prog w= .ok b w:=bU i l j d k b h c e w 5 (by omega)
theorem agO (h l i d k j b c e:Value)(w:World):(Instr.index 188 (.agg #[h,l,i,d,k,j,b,c,e]) (6:Int)).run prog w= .ok b w:=bU h l i d k j b c e w 6 (by omega)
theorem agP (h l i c k j e b d:Value)(w:World):(Instr.index 188 (.agg #[h,l,i,c,k,j,e,b,d]) (7:Int)).run prog w= .ok b w:=bU h l i c k j e b d w 7 (by omega)
theorem agQ (h l i d k j e c b:Value)(w:World):(Instr.index 188 (.agg #[h,l,i,d,k,j,e,c,b]) (8:Int)).run prog w= .ok b w:=bU h l i d k j e c b w 8 (by omega)
attribute [local go_sem] agI agJ agK agL agM agN agO agP agQ
theorem aY {g:Nat}{t:TypeId}{b:Array Value}(h:ag w g t b)(o:Obj):ag (w.alloc o) g t b:=h.alloc o
theorem nF (w:World)(t:TypeId)(b:Array Value)(n:Nat)(h:w.heap.size=n):ag (w.alloc (.cells b t)) n t b:=by subst h;exact ag.new w t b
theorem K9.made (w:World)(m:Nat)(most:Int)(s:ByteArray)(o:Obj):K9 ((((((((((((w.alloc (.cells #[.int .u32 m] 22)).alloc (.cells #[most] 3)).alloc (.cells #[s] 9)).alloc (.cells #[.int .u64 0,eS,eS] 103)).alloc (.cells #[eS] 9)).alloc (.cells #[(0:Int)] 3)).alloc (.cells #[VD (w.heap.size+1+1)] 184)).alloc (.cells #[(4:Nat)] 3)).alloc (.cells #[(16:Nat)] 3)).alloc (.cells #[(20:Nat)] 3)).alloc (.cells #[(24:Nat)] 3)).alloc o) w.heap.size m most s ⟨#[]⟩ 0:=by
 constructor
 ·exact(aY (aY (aY (aY (aY (aY (aY (aY (aY (aY (aY (nF _ _ _ _ (by simp)) _) _) _) _) _) _) _) _) _) _) _)
 ·exact(aY (aY (aY (aY (aY (aY (aY (aY (aY (aY (nF _ _ _ _ (by simp)) _) _) _) _) _) _) _) _) _) _)
 ·exact(aY (aY (aY (aY (aY (aY (aY (aY (aY (nF _ _ _ _ (by simp)) _) _) _) _) _) _) _) _) _)
 ·exact(aY (aY (aY (aY (aY (aY (aY (aY (nF _ _ _ _ (by simp)) _) _) _) _) _) _) _) _)
 ·exact(aY (aY (aY (aY (aY (aY (aY (nF _ _ _ _ (by simp)) _) _) _) _) _) _) _)
 ·exact(aY (aY (aY (aY (aY (aY (nF _ _ _ _ (by simp)) _) _) _) _) _) _)
 ·exact(aY (aY (aY (aY (aY (nF _ _ _ _ (by simp)) _) _) _) _) _)
 ·exact(aY (aY (aY (aY (nF _ _ _ _ (by simp)) _) _) _) _)
 ·exact(aY (aY (aY (nF _ _ _ _ (by simp)) _) _) _)
 ·exact(aY (aY (nF _ _ _ _ (by simp)) _) _)
 exact(aY (nF _ _ _ _ (by simp)) _)
theorem JC (m:Nat)(most:Int)(s:ByteArray)(w:World)(D:m<4294967296)(K:s.size<=1099511627776)(Y: -9223372036854775808<=most/\most<=9223372036854775807)(W:(s.size:Int)<=90000\/most<=90000):
 Calls prog 91 #[.int .u32 m,most,s] w fun e w'=>e= .returned (acD (aX m most s))/\(w,w'):=by
 have A:=za (fun b k w=>ND b k w);go_enter func91,ntmps91
 go_wp2_with fail
 refine(A.out _ 4 _).mono ?_;rintro e o ⟨rfl,rfl⟩;go_wp2_with fail
 refine(A.out _ 16 _).mono ?_;rintro e o ⟨rfl,rfl⟩;go_wp2_with fail
 refine(A.out _ 20 _).mono ?_;rintro e o ⟨rfl,rfl⟩;go_wp2_with fail
 refine(A.out _ 24 _).mono ?_;rintro e o ⟨rfl,rfl⟩;go_wp2_with fail
 generalize C:World.alloc _ (Obj.cells _ 188)=J;have S:Hid (K9 J w.heap.size m most s ⟨#[]⟩ 0):=za (by
  rw[<-C];exact K9.made w m most s _)
 have L:Hid (w,J):=za (by rw[<-C];exact bO);clear C;go_loopw [34] (fun i wr=>∃(k:Nat) (nm:ByteArray) (y:Nat),k<=9/\i= .int .i64 k/\K9 wr w.heap.size m most s nm y/\cC m most s nm y k/\(w,wr)) (fun i _=>9-(intOf i).toNat)
 case atStart=>exact⟨0,_,_,by omega,rfl,S.out,cC.zero,L.out⟩
 case round=>
  obtain⟨k,nm,y,H,rfl,hS,I,G⟩:=hrel;have c:=za hS;have l:=za I;have j:=za G;clear hS I G;have M:k=0\/k=1\/k=2\/k=3\/k=4\/k=5\/k=6\/k=7\/k=8\/k=9:=by omega
  rcases M with rfl|rfl|rfl|rfl|rfl|rfl|rfl|rfl|rfl|rfl
  ·have d:=za (fun(_:Unit)=>uA s _ _ 4 wr c.out.tx c.out.k1 (by omega) (by omega));by_cases h:4<=s.size
   ·simp only[zj h]at d;go_wp2_with fail
    refine(d.out ()).mono ?_;rintro e o ⟨rfl,rfl⟩;go_wp2;go_roundw
    case rel=>exact⟨1,_,_,by omega,rfl,c.out,l.out.st0 h,j.out⟩
    case measure=>simp[intOf]
   simp only[zi h]at d;have x:=za (cC.no0 (m:=m) (most:=most) h);go_wp2_with fail
   refine(d.out ()).mono ?_;rintro e o ⟨rfl,rfl⟩;obtain⟨g0,g1,g2,f0,f1,f2⟩:=bp c.out.fr;go_wp2;have p:=za (oK c.out.fr (.int .u64 0) eS eS);obtain⟨u,r,q,_,_,_⟩:=bp p.out;refine zl (v:= .tuple #[.agg #[.int .u64 0,.string ⟨#[]⟩,.string ⟨#[]⟩],.int .i64 0,.int .i64 2]) (by simp[results,xg,go_sem,u,r,q]) rfl ?_;rw[x.out];exact⟨rfl,kB j.out (by omega) _ _ _⟩
  ·have d:=za (fun(_:Unit)=>Ug s _ _ _ m wr c.out.tx c.out.nu c.out.mg D (by omega) (l.out.q0 (by omega)));by_cases h:da (s.extract 0 4).data.toList=m
   ·simp only[zj h]at d;have E:s.extract 0 4=ra m:=(O2 _ _ (ar _ _ _ (l.out.q0 (by omega))) D).2 h;have B:=za E;clear h E;go_wp2_with fail
    refine(d.out ()).mono ?_;rintro e o ⟨rfl,n,rfl⟩;replace c:=za (c.out.La (w':=wr.drewN n) (by intro k H;simp));replace j:Hid (w,wr.drewN n):=za (Below.bF j.out n);go_wp2;go_roundw
    case rel=>exact⟨2,_,_,by omega,rfl,c.out,l.out.gw B.out,j.out⟩
    case measure=>simp[intOf]
   simp only[zi h]at d;have x:=za (l.out.no1 D h);clear h;go_wp2_with fail
   refine(d.out ()).mono ?_;rintro e o ⟨rfl,n,rfl⟩;replace c:=za (c.out.La (w':=wr.drewN n) (by intro k H;simp));replace j:Hid (w,wr.drewN n):=za (Below.bF j.out n);obtain⟨g0,g1,g2,f0,f1,f2⟩:=bp c.out.fr;go_wp2;have p:=za (oK c.out.fr (.int .u64 0) eS eS);obtain⟨u,r,q,_,_,_⟩:=bp p.out;refine zl (v:= .tuple #[.agg #[.int .u64 0,.string ⟨#[]⟩,.string ⟨#[]⟩],.int .i64 0,.int .i64 9]) (by simp[results,xg,go_sem,u,r,q]) rfl ?_;rw[x.out];exact⟨rfl,kB j.out (by omega) _ _ _⟩
  ·have d:=za (fun(_:Unit)=>uA s _ _ 16 wr c.out.tx c.out.k2 (by omega) (by omega));by_cases h:16<=s.size
   ·simp only[zj h]at d;go_wp2_with fail
    refine(d.out ()).mono ?_;rintro e o ⟨rfl,rfl⟩;go_wp2;go_roundw
    case rel=>exact⟨3,_,_,by omega,rfl,c.out,l.out.Sv h,j.out⟩
    case measure=>simp[intOf]
   simp only[zi h]at d;have x:=za (l.out.no2 h);go_wp2_with fail
   refine(d.out ()).mono ?_;rintro e o ⟨rfl,rfl⟩;obtain⟨g0,g1,g2,f0,f1,f2⟩:=bp c.out.fr;go_wp2;have p:=za (oK c.out.fr (.int .u64 0) eS eS);obtain⟨u,r,q,_,_,_⟩:=bp p.out;refine zl (v:= .tuple #[.agg #[.int .u64 0,.string ⟨#[]⟩,.string ⟨#[]⟩],.int .i64 0,.int .i64 2]) (by simp[results,xg,go_sem,u,r,q]) rfl ?_;rw[x.out];exact⟨rfl,kB j.out (by omega) _ _ _⟩
  ·have d:=za (fun(_:Unit)=>Uh s _ _ _ wr c.out.tx c.out.na (by omega) (by omega) (l.out.q2 (by omega)));rcases sA (s.extract 4 16)with hg|⟨t,hg⟩
   ·have x:=za (l.out.no3 hg);simp only[hg]at d;clear hg;replace c:=za (c.out.name ByteArray.empty);replace j:Hid (w,wr.setCell (w.heap.size+1+1+1+1,0) ByteArray.empty):=za (j.out.setCell (by show w.heap.size<=w.heap.size+1+1+1+1;omega) _);go_wp2_with fail
    refine(d.out ()).mono ?_;rintro e o ⟨rfl,rfl⟩;obtain⟨g0,g1,g2,f0,f1,f2⟩:=bp c.out.fr;go_wp2;have p:=za (oK c.out.fr (.int .u64 0) eS eS);obtain⟨u,r,q,_,_,_⟩:=bp p.out;refine zl (v:= .tuple #[.agg #[.int .u64 0,.string ⟨#[]⟩,.string ⟨#[]⟩],.int .i64 0,.int .i64 3]) (by simp[results,xg,go_sem,u,r,q]) rfl ?_;rw[x.out];exact⟨rfl,kB j.out (by omega) _ _ _⟩
   have O:=za hg;simp only[hg]at d;clear hg;replace c:=za (c.out.name t);replace j:Hid (w,wr.setCell (w.heap.size+1+1+1+1,0) t):=za (j.out.setCell (by show w.heap.size<=w.heap.size+1+1+1+1;omega) _);go_wp2_with fail
   refine(d.out ()).mono ?_;rintro e o ⟨rfl,rfl⟩;go_wp2;go_roundw
   case rel=>exact⟨4,_,_,by omega,rfl,c.out,l.out.st3 O.out,j.out⟩
   case measure=>simp[intOf]
  ·have d:=za (fun(_:Unit)=>uA s _ _ 20 wr c.out.tx c.out.k3 (by omega) (by omega));by_cases h:20<=s.size
   ·simp only[zj h]at d;go_wp2_with fail
    refine(d.out ()).mono ?_;rintro e o ⟨rfl,rfl⟩;go_wp2;go_roundw
    case rel=>exact⟨5,_,_,by omega,rfl,c.out,l.out.st4 h,j.out⟩
    case measure=>simp[intOf]
   simp only[zi h]at d;have x:=za (l.out.no4 h);go_wp2_with fail
   refine(d.out ()).mono ?_;rintro e o ⟨rfl,rfl⟩;obtain⟨g0,g1,g2,f0,f1,f2⟩:=bp c.out.fr;go_wp2;have p:=za (oK c.out.fr (.int .u64 0) eS eS);obtain⟨u,r,q,_,_,_⟩:=bp p.out;refine zl (v:= .tuple #[.agg #[.int .u64 0,.string ⟨#[]⟩,.string ⟨#[]⟩],.int .i64 0,.int .i64 2]) (by simp[results,xg,go_sem,u,r,q]) rfl ?_;rw[x.out];exact⟨rfl,kB j.out (by omega) _ _ _⟩
  ·have d:=za (fun(_:Unit)=>XZ s _ _ _ _ _ most wr c.out.tx c.out.nu c.out.le c.out.mo (by omega) (by omega) (l.out.q4 (by omega)));replace c:=za (c.out.len (da (s.extract 16 20).data.toList));replace j:Hid (w,wr.setCell (w.heap.size+1+1+1+1+1,0) (.int .i64 (da (s.extract 16 20).data.toList))):=za (j.out.setCell (by show w.heap.size<=w.heap.size+1+1+1+1+1;omega) _);by_cases h:(da (s.extract 16 20).data.toList:Int)<=most
   ·simp only[zj h]at d;have B:=za (l.out.st5 h);clear h;generalize da (s.extract 16 20).data.toList=N at*;go_wp2_with fail
    refine(d.out ()).mono ?_;rintro e o ⟨rfl,rfl⟩;go_wp2;go_roundw
    case rel=>exact⟨6,_,_,by omega,rfl,c.out,B.out,j.out⟩
    case measure=>simp[intOf]
   simp only[zi h]at d;have x:=za (l.out.no5 h);clear h;generalize da (s.extract 16 20).data.toList=N at*;go_wp2_with fail
   refine(d.out ()).mono ?_;rintro e o ⟨rfl,rfl⟩;obtain⟨g0,g1,g2,f0,f1,f2⟩:=bp c.out.fr;go_wp2;have p:=za (oK c.out.fr (.int .u64 0) eS eS);obtain⟨u,r,q,_,_,_⟩:=bp p.out;refine zl (v:= .tuple #[.agg #[.int .u64 0,.string ⟨#[]⟩,.string ⟨#[]⟩],.int .i64 0,.int .i64 5]) (by simp[results,xg,go_sem,u,r,q]) rfl ?_;rw[x.out];exact⟨rfl,kB j.out (by omega) _ _ _⟩
  ·have d:=za (fun(_:Unit)=>uA s _ _ 24 wr c.out.tx c.out.k4 (by omega) (by omega));by_cases h:24<=s.size
   ·simp only[zj h]at d;go_wp2_with fail
    refine(d.out ()).mono ?_;rintro e o ⟨rfl,rfl⟩;go_wp2;go_roundw
    case rel=>exact⟨7,_,_,by omega,rfl,c.out,l.out.st6 h,j.out⟩
    case measure=>simp[intOf]
   simp only[zi h]at d;have x:=za (l.out.no7 (by omega));go_wp2_with fail
   refine(d.out ()).mono ?_;rintro e o ⟨rfl,rfl⟩;obtain⟨g0,g1,g2,f0,f1,f2⟩:=bp c.out.fr;go_wp2;have p:=za (oK c.out.fr (.int .u64 0) eS eS);obtain⟨u,r,q,_,_,_⟩:=bp p.out;refine zl (v:= .tuple #[.agg #[.int .u64 0,.string ⟨#[]⟩,.string ⟨#[]⟩],.int .i64 0,.int .i64 2]) (by simp[results,xg,go_sem,u,r,q]) rfl ?_;rw[x.out];exact⟨rfl,kB j.out (by omega) _ _ _⟩
  ·have F:y<4294967296:=by
    rw[(l.out.q5 (by omega)).1];exact uk _ (ar _ _ _ (l.out.q4 (by omega)))
   have d:=za (fun(_:Unit)=>Ui s _ _ y wr c.out.tx c.out.le (by omega) F);clear F;by_cases h:24+y<=s.size
   ·simp only[zj h]at d;go_wp2_with fail
    refine(d.out ()).mono ?_;rintro e o ⟨rfl,rfl⟩;go_wp2;go_roundw
    case rel=>exact⟨8,_,_,by omega,rfl,c.out,l.out.st7 h,j.out⟩
    case measure=>simp[intOf]
   simp only[zi h]at d;have x:=za (cC.agH l.out h);go_wp2_with fail
   refine(d.out ()).mono ?_;rintro e o ⟨rfl,rfl⟩;obtain⟨g0,g1,g2,f0,f1,f2⟩:=bp c.out.fr;go_wp2;have p:=za (oK c.out.fr (.int .u64 0) eS eS);obtain⟨u,r,q,_,_,_⟩:=bp p.out;refine zl (v:= .tuple #[.agg #[.int .u64 0,.string ⟨#[]⟩,.string ⟨#[]⟩],.int .i64 0,.int .i64 2]) (by simp[results,xg,go_sem,u,r,q]) rfl ?_;rw[x.out];exact⟨rfl,kB j.out (by omega) _ _ _⟩
  ·have d:=za (fun(_:Unit)=>X1 s _ _ y wr c.out.tx c.out.le K (l.out.q7 (by omega)) (by have:=(l.out.q5 (by omega)).2;have:=l.out.q7 (by omega);omega));by_cases h:eP (s.extract 24 (24+y))=s.extract 20 24
   ·simp only[zj h]at d;have B:=za h;clear h;go_wp2_with fail
    refine(d.out ()).mono ?_;rintro e o ⟨rfl,z⟩;replace c:=za (c.out.La (w':=o) z.block);replace j:Hid (w,o):=za (j.out.trans (z.mono j.out.size));clear z;go_wp2;go_roundw
    case rel=>exact⟨9,_,_,by omega,rfl,c.out,l.out.st8 B.out,j.out⟩
    case measure=>simp[intOf]
   simp only[zi h]at d;have x:=za (l.out.no8 h);clear h;go_wp2_with fail
   refine(d.out ()).mono ?_;rintro e o ⟨rfl,z⟩;replace c:=za (c.out.La (w':=o) z.block);replace j:Hid (w,o):=za (j.out.trans (z.mono j.out.size));clear z;obtain⟨g0,g1,g2,f0,f1,f2⟩:=bp c.out.fr;go_wp2;have p:=za (oK c.out.fr (.int .u64 0) eS eS);obtain⟨u,r,q,_,_,_⟩:=bp p.out;refine zl (v:= .tuple #[.agg #[.int .u64 0,.string ⟨#[]⟩,.string ⟨#[]⟩],.int .i64 0,.int .i64 10]) (by simp[results,xg,go_sem,u,r,q]) rfl ?_;rw[x.out];exact⟨rfl,kB j.out (by omega) _ _ _⟩
  have x:=za l.out.yes;have X:=l.out.q7 (by omega);have DG:(24:Int)+y<=s.size:=by omega
  have U:(0:Int)<=24+y:=by omega
  have p3:(24:Int)<=s.size:=by omega
  have Z:IntKind.i64.wrap (24+(y:Int))=24+y:=zZ _ (by omega);have p5:(24+(y:Int)).toNat=24+y:=by omega
  have n1:wr.cell? (w.heap.size+1+1+1+1,0)=some (.string nm):=zX c.out.na;have n2:wr.cell? (w.heap.size+1+1,0)=some (.string s):=zX c.out.tx;have R:wr.cell? (w.heap.size+1+1+1+1+1,0)=some (.int .i64 y):=zX c.out.le;obtain⟨g0,g1,g2,f0,f1,f2⟩:=bp c.out.fr;clear A;go_wp2;go_region
  have p:=za (oK c.out.fr (.int .u64 0) nm (.string (s.extract 24 (24+y))));obtain⟨u,r,q,_,_,_⟩:=bp p.out;clear g0 g1 g2 f0 f1 f2 n1 n2 R;go_wp2;refine zl (v:= .tuple #[.agg #[.int .u64 0,nm,.string (s.extract 24 (24+y))],(24+y:Int),(0:Int)]) (by simp[results,xg,go_sem,u,r,q]) rfl ?_;rw[x.out];exact⟨rfl,(kB j.out (by omega) _ _ _).drew⟩
